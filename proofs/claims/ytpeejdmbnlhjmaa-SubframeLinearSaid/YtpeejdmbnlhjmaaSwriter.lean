/- Bits that are laid into a writer ((*bits.Writer).Put): the proof that the program's call comes to the plain function. For any number, width and writer of up to 2^40 bits. -/
import Derived.Test.YtpeejdmbnlhjmaaProg
import Derived.Below
import Derived.Deep.Draws
import Derived.Deep.AppendLies
import Derived.Maps.AppendAt
import Derived.OwnWalk
import Derived.Laws.BytesArg
import Derived.Laws.MakeOwn
import Derived.Laws.OwnMore
import Derived.Deep.OwnRows
import Derived.Tactics
import Derived.Lib.ConvBytes
import Derived.Laws.Slices
import Derived.WalkKit
import Derived.KernelRfl
import Derived.RowKit3
import Derived.Deep.LoopGhost
import Derived.Deep.QuietTactic
import Derived.BigQuiet
import Derived.WideLaws
import Derived.Deep.DeepCutAuto
import Derived.Deep.CutBlock
import Derived.Deep.RegionHeld3
import Derived.Laws.Rows
import Derived.Lib.AppendStr
import Derived.ArgAppend
import Derived.Laws.IdiomCopy
import Derived.OrdersHeld
import Derived.Laws.BitsLemmas
import Derived.RowKit
import Derived.Test.YtpeejdmbnlhjmaaWWords
import Derived.Test.YtpeejdmbnlhjmaaWLast
import Derived.Test.YtpeejdmbnlhjmaaWTab
import Derived.Test.YtpeejdmbnlhjmaaWFour
import Derived.Test.YtpeejdmbnlhjmaaWQPut
import Derived.Test.YtpeejdmbnlhjmaaWApart
import Derived.Test.YtpeejdmbnlhjmaaWArr
import Derived.Test.YtpeejdmbnlhjmaaWZeros
import Derived.Test.YtpeejdmbnlhjmaaWFoot
import Derived.Test.YtpeejdmbnlhjmaaWKept
import Derived.Test.YtpeejdmbnlhjmaaWShare
import Derived.Test.YtpeejdmbnlhjmaaWN
import Derived.Test.YtpeejdmbnlhjmaaWFootNe
import Derived.Test.YtpeejdmbnlhjmaaWAt
import Derived.Test.YtpeejdmbnlhjmaaWEqStruct
import Derived.Test.YtpeejdmbnlhjmaaWRepsOne
import Derived.Test.YtpeejdmbnlhjmaaWInv
import Derived.Test.YtpeejdmbnlhjmaaWInvWords
import Derived.Test.YtpeejdmbnlhjmaaWGuard
import Derived.Test.YtpeejdmbnlhjmaaWNEv
import Derived.Test.YtpeejdmbnlhjmaaWMore
import Derived.ScopeJumps
import Derived.WalkMore
import Derived.Test.YtpeejdmbnlhjmaaSpre
import Derived.Test.YtpeejdmbnlhjmaaSclone
import Derived.Test.YtpeejdmbnlhjmaaSfunc
import Derived.Test.YtpeejdmbnlhjmaaSdown
import Derived.Test.YtpeejdmbnlhjmaaSw
namespace Go.Proofs.Ytpeejdmbnlhjmaa.H
open Go.RowKit Go.Proofs.YtpeejdmbnlhjmaaW.PrintWords Go.Proofs.YtpeejdmbnlhjmaaW.PrintLast Go.Proofs.YtpeejdmbnlhjmaaW.PrintMore
attribute [local go_sem] max2_int min2_int max_two min_two max_three min_three max_four min_four   -- for this text's walks alone
set_option linter.unusedVariables false
set_option linter.unusedSimpArgs false
theorem ofFn76 (U : Nat → Value) : Array.ofFn (n := 76) (fun i => U i.val) = #[U 0, U 1, U 2, U 3, U 4, U 5, U 6, U 7, U 8, U 9, U 10, U 11, U 12, U 13, U 14, U 15, U 16, U 17, U 18, U 19, U 20, U 21, U 22, U 23, U 24, U 25, U 26, U 27, U 28, U 29, U 30, U 31, U 32, U 33, U 34, U 35, U 36, U 37, U 38, U 39, U 40, U 41, U 42, U 43, U 44, U 45, U 46, U 47, U 48, U 49, U 50, U 51, U 52, U 53, U 54, U 55, U 56, U 57, U 58, U 59, U 60, U 61, U 62, U 63, U 64, U 65, U 66, U 67, U 68, U 69, U 70, U 71, U 72, U 73, U 74, U 75] := by kernel_rfl
theorem frame76 (t : Array Value) (hs : t.size = 76) : ∃ U : Nat → Value, (∀ i, U i = t.getD i undef) ∧ t = #[U 0, U 1, U 2, U 3, U 4, U 5, U 6, U 7, U 8, U 9, U 10, U 11, U 12, U 13, U 14, U 15, U 16, U 17, U 18, U 19, U 20, U 21, U 22, U 23, U 24, U 25, U 26, U 27, U 28, U 29, U 30, U 31, U 32, U 33, U 34, U 35, U 36, U 37, U 38, U 39, U 40, U 41, U 42, U 43, U 44, U 45, U 46, U 47, U 48, U 49, U 50, U 51, U 52, U 53, U 54, U 55, U 56, U 57, U 58, U 59, U 60, U 61, U 62, U 63, U 64, U 65, U 66, U 67, U 68, U 69, U 70, U 71, U 72, U 73, U 74, U 75] := by
  obtain ⟨U, hU⟩ : ∃ U : Nat → Value, ∀ i, U i = t.getD i undef := ⟨fun i => t.getD i undef, fun _ => rfl⟩
  refine ⟨U, hU, ?_⟩
  rw [← ofFn76 U]
  exact Array.ext (by simp [hs]) (fun i h1 h2 => by simp [hU, Array.getD, h1])
set_option maxHeartbeats 8000000 in
set_option maxRecDepth 100000 in
theorem put_calls (B : Nat) (w0 w : World) (g : Nat) (v0 : Value) (bs0 : List Int) (n0 u width : Int) (hs : WSt B w g v0 bs0 n0) (hB : Below B w0 w) (hbz : B ≤ w.heap.size) (hu : 0 ≤ u ∧ u < 18446744073709551616) (hn : 0 ≤ n0 ∧ n0 ≤ 1000000000000) (hl : (bs0.length : Int) = (n0 + 7) / 8) :
    Calls Try.prog 83 #[.pointer (some ⟨g, 0, none⟩), .int .u64 u, .int .i64 width] w (WEnd B g v0 w (wput 64 bs0 n0 u (max 0 (min width 64)))) := by
  have HS := Aside0.mk hs
  obtain ⟨hu0, hu1⟩ := hu
  have HN := Aside0.mk hn
  have HLEN := Aside0.mk hl
  have HB := Aside0.mk hB
  have HBZ := Aside0.mk hbz
  clear hs hn hl hB hbz
  go_enter Try.func83, Try.ntmps83
  refine wp_scope_loop 0 (fun a W => ∃ left : Int, (a.tmps.size = 76 ∧ a.defers = [] ∧ a.tmps.getD 0 undef = .pointer (some ⟨g, 0, none⟩) ∧ a.tmps.getD 1 undef = .int .u64 u ∧ a.tmps.getD 2 undef = .int .i64 width ∧ a.tmps.getD 6 undef = .int .i64 left) ∧ 0 ≤ left ∧ left ≤ 64 ∧ Aside0 (WJ B g v0 w u (wput 64 bs0 n0 u (max 0 (min width 64))) left W)) (fun a _ => (intOf (a.tmps.getD 6 undef)).toNat) rfl ?_ ?_
  · intro enter
    have ENTER := Aside0.mk enter
    clear enter
    go_wp2_with (first | (go_at_call 136; (with_reducible refine (held_calls _ _).mono ?_); rintro e w1 ⟨rfl, rfl⟩))
    go_step3
    rename_i hK
    refine hK _ _ (ENTER.out _ _ ⟨max 0 (min width 64), ⟨rfl, rfl, rfl, rfl, rfl, rfl⟩, by omega, by omega, ⟨v0, bs0, n0, 64, HS.out, WStep.refl _ _ _, rfl, by omega, HN.out.1, by have := HN.out.2; omega, HLEN.out⟩⟩)
  · rintro a W ⟨left, ⟨hf1, hf2, hf3, hf4, hf5, hf6⟩, hl0, hl1, hJ⟩
    obtain ⟨ts, ds⟩ := a
    simp only at hf1 hf2 hf3 hf4 hf5 hf6
    subst hf2
    obtain ⟨U, hU, ha⟩ := frame76 ts hf1
    have q0 := (hU 0).trans hf3
    have q1 := (hU 1).trans hf4
    have q2 := (hU 2).trans hf5
    have q6 := (hU 6).trans hf6
    rw [q0, q1, q2, q6] at ha
    clear hU q0 q1 q2 q6 hf1 hf3 hf4 hf5 hf6
    subst ha
    by_cases hz : left = 0
    · subst hz
      obtain ⟨v, bs, n, f, h1, h2, h3, _⟩ := hJ.out
      have HE : Aside0 (WSt B W g v (wput 64 bs0 n0 u (max 0 (min width 64))).1 (wput 64 bs0 n0 u (max 0 (min width 64))).2 ∧ WStep g v0 w v W) := by
        refine ⟨?_, h2⟩
        have e : wput f bs n u 0 = (bs, n) := by cases f <;> rfl
        rw [← h3, e]
        exact h1
      clear h1 h2 h3 hJ hl0 hl1
      go_wp2_with fail
      simp only [Exit.jump]
      exact bodyPost_ret (v := .tuple #[]) (by simp [results, go_sem]) rfl ⟨rfl, _, HE.out.1, HE.out.2⟩
    · have z1 : (left == 0) = false := beq_eq_false_iff_ne.mpr hz
      obtain ⟨v, bs, n, f, h1, h2, h3, h4, h5, h6, h7⟩ := hJ.out
      cases f with
      | zero => omega
      | succ f =>
        unfold wput at h3
        rw [if_neg (by omega)] at h3
        obtain ⟨A, c, rfl⟩ := Kd.R_slice h1.2.2
        have H1 := Aside0.mk h1
        have H2 := Aside0.mk h2
        have H3 := Aside0.mk h3
        have H4 := Aside0.mk h4
        have H7 := Aside0.mk h7
        obtain ⟨x0, x1⟩ := wcell h1
        have y0 := wfree h1 0
        have y1 := wfree h1 1
        clear hJ h1 h2 h3 h4 h7
        go_upto_if 19 with fail
        go_cut [] (fun W1 => ∃ A1 c1, Aside0 (WSt B W1 g (.slice A1 (wRow bs n).length c1) (wRow bs n) n) ∧ Aside0 (WStep g (.slice A bs.length c) W (.slice A1 (wRow bs n).length c1) W1))
        case first =>
          by_cases hm : n % 8 = 0
          · have m1 : (n % 8 == 0) = true := beq_iff_eq.mpr hm
            have m2 : (Int.tmod n 8 == 0) = true := by rw [Int.tmod_eq_emod_of_nonneg h5]; exact m1
            have er : wRow bs n = bs ++ [0] := if_pos hm
            have ER := Aside0.mk er
            clear hm er
            go_wp2_with (first
              | ((with_reducible refine gate_builtin (b := .append) (xs := #[.tmp 24, .tmp 25]) rfl ?_); at_builtin; refine Kd.R_append_rows (Kd.int .u8) (w0 := w0) B rfl (.tmp 24) (.tmp 25) 22 5 (.int .u8 0) 1 rfl Try.underlying22 infoB rfl (by decide) (by omega) _ bs [0] _ _ _ (fun k => k ≠ g) (fun _ => False) rfl rfl (Kd.R_below H1.out.2.2 (below_alloc (Below.refl _ _) _)) (C_of_blk8 (xs := [0]) (heap_alloc_new _ _) (by simp)) (fun _ _ h => h) (fun _ h => h.elim) (wfresh H1.out) (wbelow HB.out HBZ.out HS.out H2.out) (wbase HBZ.out H2.out) (wbound H7.out h6) ?_; intro v1 w1 hr hb hg hat; obtain ⟨A1, c1, rfl⟩ := Kd.R_slice hr; have hg' := World.grownBy.trans (World.grownBy_alloc W (.cells #[.int .u8 0] 5) (Value.slice A bs.length c).ownBlock) hg; have hat' := wown (.cells #[.int .u8 0] 5) hat; have hk := wkeep H1.out hg'; have G1 := Aside0.mk (wgrow (w0 := w0) H1.out hr hg' hat'); have s0 := blk_cell hk 0; have s1 := blk_frozen hk 0; clear hr hb hg hat hg' hat' hk))
            go_meet
            rw [ER.out]
            exact ⟨A1, c1, ⟨by have G := G1.out.1; simpa using G⟩, ⟨by have G := G1.out.2; simpa using G⟩⟩
          · have m1 : (n % 8 == 0) = false := beq_eq_false_iff_ne.mpr hm
            have m2 : (Int.tmod n 8 == 0) = false := by rw [Int.tmod_eq_emod_of_nonneg h5]; exact m1
            have er : wRow bs n = bs := if_neg hm
            have ER := Aside0.mk er
            clear hm er
            go_wp2_with fail
            go_meet
            rw [ER.out]
            exact ⟨A, c, H1, ⟨WStep.refl _ _ _⟩⟩
        case rest =>
        obtain ⟨A1, c1, S1, T1⟩ := hcut
        clear x0 x1 y0 y1
        have hq0 := Int.emod_nonneg n (show (8 : Int) ≠ 0 by decide)
        have hq1 := Int.emod_lt_of_pos n (show (0 : Int) < 8 by decide)
        have hq2 := Int.tmod_eq_emod_of_nonneg (b := 8) h5
        have hL : ((wRow bs n).length : Int) = n / 8 + 1 := by
          have := H7.out
          unfold wRow
          split
          · rw [List.length_append]
            simp only [List.length_cons, List.length_nil]
            omega
          · omega
        have HL := Aside0.mk hL
        have hL0 : 1 ≤ (wRow bs n).length := by omega
        have hL1 : (wRow bs n).length ≤ 1099511627776 := by omega
        have HN8 := Aside0.mk (show n % 8 = n % 8 from rfl)
        have H5 := Aside0.mk h5
        have H6 := Aside0.mk h6
        clear hL
        generalize hrs : wRow bs n = rs at *
        generalize hnq : n % 8 = q at *
        have HRS := Aside0.mk hrs
        have HNQ := Aside0.mk hnq
        clear hrs hnq
        obtain ⟨h, cap, hv, hge, _, _⟩ := Kd.R_form S1.out.2.2 (by omega)
        obtain ⟨rfl, _, rfl⟩ := Value.slice.inj hv
        clear hv
        obtain ⟨x0, x1⟩ := wcell S1.out
        obtain ⟨j, hj⟩ : ∃ j : Nat, (rs.length : Int) - 1 = (j : Int) := ⟨rs.length - 1, by omega⟩
        have hjl : j < rs.length := by omega
        obtain ⟨x2, x3⟩ := wrow_at S1.out j hjl
        generalize hx : rd rs (j : Int) = x at x2
        have HX := Aside0.mk hx
        have e1 : IntKind.i64.wrap (j : Int) = (j : Int) := by rw [IntKind.wrap_i64]; omega
        have k2 : (0 : Int) ≤ (j : Int) := Int.natCast_nonneg _
        have k3 : (j : Int) < (rs.length : Int) := by omega
        clear hx
        by_cases hml : left < 8 - q
        · have k1 : decide (left < 8 - q) = true := decide_eq_true hml
          go_upto_region 7 with fail
          go_quiet (fail)
          obtain ⟨sN, hsN⟩ : ∃ sN : Nat, 8 - q - left = (sN : Int) := ⟨(8 - q - left).toNat, by omega⟩
          have e2 : IntKind.i64.wrap (sN : Int) = (sN : Int) := by rw [IntKind.wrap_i64]; omega
          have k4 : (0 : Int) ≤ (sN : Int) := Int.natCast_nonneg _
          have k5 : (sN : Int) < 8 := by omega
          have HM := Aside0.mk (show wMany n left = left by unfold wMany; have := HNQ.out; omega)
          have HY := Aside0.mk (wByte_eq (u := u) (l' := 0) HRS.out HNQ.out HM.out hj HX.out hsN (by omega))
          have hP : 0 ≤ left ∧ left ≤ 8 := by omega
          generalize hp : bits BinOp.and IntKind.u8 (u % 256) ((2 ^ left.toNat - 1) % 256) = part
          have HP := Aside0.mk hp
          clear hp
          go_upto_region 8 with fail
          go_region
          have S2 := Aside0.mk (wstore (wdrew S1.out (nq + 1)).1 j (bits BinOp.or IntKind.u8 x (part * 2 ^ sN % 256)))
          have T2 := Aside0.mk (((H2.out.trans T1.out).trans (wdrew S1.out (nq + 1)).2).trans S2.out.2)
          generalize (wc.drewN (nq + 1)).setCell ⟨h, j, none⟩ (.int .u8 (bits BinOp.or IntKind.u8 x (part * 2 ^ sN % 256))) = W2 at *
          clear x0 x1 x2 x3
          obtain ⟨x0, x1⟩ := wcell S2.out.1
          have y1 := wfree S2.out.1 1
          have b1 := H5.out
          have b2 := H6.out
          go_wp2_with fail
          go_step3
          have HF := wcount S2.out.1 (n + left)
          refine ⟨rfl, ⟨0, ⟨rfl, rfl, rfl, rfl, rfl, rfl⟩, by omega, by omega, ⟨WJ_next (f := f) HF.1 (T2.out.trans HF.2) H3.out HM.out (by omega) hj (HY.out.trans ?_) H4.out H5.out H6.out HL.out (by omega) (by have := HNQ.out; omega) (by omega)⟩⟩, by simp [intOf]; omega⟩
          rw [← HP.out]
          simp
        · have k1 : decide (left < 8 - q) = false := decide_eq_false hml
          have k6 : 0 ≤ left - (8 - q) := by omega
          obtain ⟨l', hl'⟩ : ∃ l' : Int, left - (8 - q) = l' := ⟨_, rfl⟩
          have k7 : 0 ≤ l' := by omega
          have k8 : l' < 64 := by omega
          have k9 : IntKind.i64.wrap l' = l' := by rw [IntKind.wrap_i64]; omega
          go_upto_region 7 with fail
          go_quiet (fail)
          have HM := Aside0.mk (show wMany n left = 8 - q by unfold wMany; have := HNQ.out; omega)
          have HY := Aside0.mk (wByte_eq (u := u) (sN := 0) (l' := l') HRS.out HNQ.out HM.out hj HX.out (by simp) hl')
          have hP : 0 ≤ 8 - q ∧ 8 - q ≤ 8 := by omega
          generalize hp : bits BinOp.and IntKind.u8 (u / 2 ^ l'.toNat % 256) ((2 ^ (8 - q).toNat - 1) % 256) = part
          have HP := Aside0.mk hp
          clear hp
          go_upto_region 8 with fail
          go_region
          have S2 := Aside0.mk (wstore (wdrew S1.out (nq + 1)).1 j (bits BinOp.or IntKind.u8 x (part % 256)))
          have T2 := Aside0.mk (((H2.out.trans T1.out).trans (wdrew S1.out (nq + 1)).2).trans S2.out.2)
          generalize (wc.drewN (nq + 1)).setCell ⟨h, j, none⟩ (.int .u8 (bits BinOp.or IntKind.u8 x (part % 256))) = W2 at *
          clear x0 x1 x2 x3
          obtain ⟨x0, x1⟩ := wcell S2.out.1
          have y1 := wfree S2.out.1 1
          have b1 := H5.out
          have b2 := H6.out
          go_wp2_with fail
          go_step3
          have HF := wcount S2.out.1 (n + (8 - q))
          refine ⟨rfl, ⟨l', ⟨rfl, rfl, rfl, rfl, rfl, rfl⟩, by omega, by omega, ⟨WJ_next (f := f) HF.1 (T2.out.trans HF.2) H3.out HM.out (by omega) hj (HY.out.trans ?_) H4.out H5.out H6.out HL.out (by omega) (by have := HNQ.out; omega) (by omega)⟩⟩, by simp [intOf]; omega⟩
          rw [← HP.out]
          simp
end Go.Proofs.Ytpeejdmbnlhjmaa.H
