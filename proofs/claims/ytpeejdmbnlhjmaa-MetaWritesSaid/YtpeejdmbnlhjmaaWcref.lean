/- The document's bytes of a comment (serinetteref18.CommentBody), with the proof of the call. For texts of up to a thousand bytes, up to a thousand fields. -/
import Derived.Test.YtpeejdmbnlhjmaaProg
import Derived.Below
import Derived.Deep.Draws
import Derived.Deep.AppendLies
import Derived.Maps.AppendAt
import Derived.OwnWalk
import Derived.Laws.BytesArg
import Derived.Laws.MakeOwn
import Derived.Laws.OwnMore
import Derived.Deep.OwnRows
import Derived.Tactics
import Derived.Lib.ConvBytes
import Derived.Laws.Slices
import Derived.WalkKit
import Derived.KernelRfl
import Derived.RowKit3
import Derived.Deep.LoopGhost
import Derived.Deep.QuietTactic
import Derived.BigQuiet
import Derived.WideLaws
import Derived.Deep.DeepCutAuto
import Derived.Deep.CutBlock
import Derived.Deep.RegionHeld3
import Derived.Laws.Rows
import Derived.Lib.AppendStr
import Derived.ArgAppend
import Derived.Laws.IdiomCopy
import Derived.OrdersHeld
import Derived.Laws.BitsLemmas
import Derived.RowKit
import Derived.Test.YtpeejdmbnlhjmaaWWords
import Derived.Test.YtpeejdmbnlhjmaaWLast
import Derived.Test.YtpeejdmbnlhjmaaWTab
import Derived.Test.YtpeejdmbnlhjmaaWFour
import Derived.Test.YtpeejdmbnlhjmaaWQPut
import Derived.Test.YtpeejdmbnlhjmaaWApart
import Derived.Test.YtpeejdmbnlhjmaaWArr
import Derived.Test.YtpeejdmbnlhjmaaWZeros
import Derived.Test.YtpeejdmbnlhjmaaWFoot
import Derived.Test.YtpeejdmbnlhjmaaWKept
import Derived.Test.YtpeejdmbnlhjmaaWShare
import Derived.Test.YtpeejdmbnlhjmaaWN
import Derived.Test.YtpeejdmbnlhjmaaWFootNe
import Derived.Test.YtpeejdmbnlhjmaaWAt
import Derived.Test.YtpeejdmbnlhjmaaWEqStruct
import Derived.Test.YtpeejdmbnlhjmaaWRepsOne
import Derived.Test.YtpeejdmbnlhjmaaWInv
import Derived.Test.YtpeejdmbnlhjmaaWInvWords
import Derived.Test.YtpeejdmbnlhjmaaWGuard
import Derived.Test.YtpeejdmbnlhjmaaWNEv
import Derived.Test.YtpeejdmbnlhjmaaWMore
import Derived.LoopN
import Derived.Outline
import Derived.Deep.RegionLaw
import Derived.Test.YtpeejdmbnlhjmaaWcomm
import Derived.Test.YtpeejdmbnlhjmaaMpre
import Derived.Test.YtpeejdmbnlhjmaaHconv
namespace Go.Proofs.Ytpeejdmbnlhjmaa.H
open Go.RowKit Go.Proofs.YtpeejdmbnlhjmaaW.PrintWords Go.Proofs.YtpeejdmbnlhjmaaW.PrintLast Go.Proofs.YtpeejdmbnlhjmaaW.PrintMore
attribute [local go_sem] max2_int min2_int max_two min_two max_three min_three max_four min_four   -- for this text's walks alone
set_option linter.unusedVariables false
set_option linter.unusedSimpArgs false
theorem bw_below (W : World) (s : ByteArray) : Below W.heap.size W (Lib.bytesWorld W 5 s) := by
  refine ⟨rfl, rfl, rfl, ?_, fun i hi => Lib.bytesWorld_at_old W 5 s i hi⟩
  rw [Lib.bytesWorld_size]; omega
theorem conv_C (W W' : World) (s : ByteArray) (hs : s.size ≤ 1000) (hb : Below (Lib.bytesWorld W 5 s).heap.size (Lib.bytesWorld W 5 s) W') : Kd.C (Kd.int .u8) W' (some ⟨W.heap.size, 0, none⟩) s.size (bytesOf s) := by
  have hl := bytesOf_length s
  have hr := conv_reads W W' 5 s (by omega) ((blk_below (Lib.bytesWorld_at_new W 5 s) hb).trans (Lib.bytesWorld_at_new W 5 s).symm)
  exact Kd.C_of_reads (d := (0 : Int)) (h1 := fun _ => rfl) hr
theorem run_conv (s : ByteArray) (W : World) : Sem.run Try.prog (convert 9 22 (.string s)) W = .ok (.slice (some ⟨W.heap.size, 0, none⟩) s.size (grownCap W s.size 0 5)) (Lib.bytesWorld W 5 s) :=
  Lib.run_convert_string_bytes W 9 22 5 s Try.underlying9 Try.underlying22 Try.underlying5
def rlit4 (n : Int) : List Int := [(Int.tmod n 256) % 256, (Int.tmod (wrap64 (Int.tdiv n 256)) 256) % 256, (Int.tmod (wrap64 (Int.tdiv n 65536)) 256) % 256, (Int.tmod (wrap64 (Int.tdiv n 16777216)) 256) % 256]
theorem rlit4_f (n : Int) : serinetteref18_Little.f n = some (rlit4 n) := rfl
def rcbodyT (M : ByteArray) (F : List ByteArray) (k : Nat) : List Int := (F.take k).foldl (fun l f => l ++ rlit4 (f.size : Int) ++ bytesOf f) (rlit4 (M.size : Int) ++ bytesOf M ++ rlit4 (F.length : Int))
def rcbodyP (M : ByteArray) (F : List ByteArray) : List Int := rcbodyT M F F.length
theorem rcbodyT_step (M : ByteArray) (F : List ByteArray) (k : Nat) (h : k < F.length) : rcbodyT M F (k + 1) = rcbodyT M F k ++ rlit4 ((F[k]).size : Int) ++ bytesOf F[k] := by
  unfold rcbodyT
  rw [List.take_succ_eq_append_getElem h, List.foldl_append]
  rfl
theorem rcbodyT_len (M : ByteArray) (F : List ByteArray) (h : cSmall M F) (k : Nat) (hk : k ≤ F.length) : (rcbodyT M F k).length ≤ 1008 + 1004 * k := by
  induction k with
  | zero =>
    have := h.1
    unfold rcbodyT
    rw [List.take_zero, List.foldl_nil, List.length_append, List.length_append, bytes_size]
    have : (rlit4 (M.size : Int)).length = 4 := rfl
    have : (rlit4 (F.length : Int)).length = 4 := rfl
    omega
  | succ k ih =>
    have := ih (by omega)
    have := h.2.2 F[k] (List.getElem_mem (by omega))
    have e : (rlit4 ((F[k]).size : Int)).length = 4 := rfl
    rw [rcbodyT_step M F k (by omega), List.length_append, List.length_append, bytes_size]
    omega
set_option maxHeartbeats 8000000 in
set_option maxRecDepth 100000 in
theorem rcbody_calls (w : World) (M : ByteArray) (A : Option Addr) (F : List ByteArray) (c : Nat) (hr : Kd.C Kd.string w A F.length F) (h : cSmall M F) : Calls Try.prog 36 #[.agg #[.string M, .slice A F.length c]] w (RowTo w (rcbodyP M F)) := by
  have hb0 := blk_new w (.cells #[.string M, .slice A F.length c] 36)
  have HB0 := Aside0.mk hb0
  have B0 := Aside0.mk (below_alloc (Below.refl w.heap.size w) (.cells #[.string M, .slice A F.length c] 36))
  have HR := Aside0.mk (Kd.C_below hr B0.out)
  have H := Aside0.mk h
  have hM : M.size ≤ 1000 := h.1
  have hF : F.length ≤ 1000 := h.2.1
  have HS := Aside0.mk (show ∀ x ∈ F, x.size ≤ 1000 from h.2.2)
  clear hb0 hr h
  go_enter Try.func36, Try.ntmps36
  go_upto_region 1 with fail
  generalize w.alloc (.cells #[.string M, .slice A F.length c] 36) = w1 at *
  have S0 := Aside0.mk B0.out.size
  have x0 : w1.cell? ⟨w.heap.size, 0, none⟩ = some (.string M) := (blk_cell HB0.out 0).trans rfl
  have x1 : w1.cell? ⟨w.heap.size, 1, none⟩ = some (.slice A F.length c) := (blk_cell HB0.out 1).trans rfl
  have hcv : ∀ W : World, Sem.run Try.prog (convert 9 22 (.string M)) W = .ok (.slice (some ⟨W.heap.size, 0, none⟩) M.size (grownCap W M.size 0 5)) (Lib.bytesWorld W 5 M) := run_conv M
  have b0 : w1.drew.cell? ⟨w.heap.size, 0, none⟩ = some (.string M) := x0
  have b1 : (Lib.bytesWorld w1.drew 5 M).cell? ⟨w.heap.size, 0, none⟩ = some (.string M) := cell_below (bw_below _ _) b0
  go_region_law (first
      | (go_simp; (with_reducible refine (serinetteref18_Little.calls (M.size : Int) _ _ (rlit4_f _)).mono ?_); rintro e w2 ⟨v2, rfl, hr2, hb2⟩; have c2 : w2.cell? ⟨w.heap.size, 0, none⟩ = some (.string M) := cell_below hb2 (by assumption); have c3 : (Lib.bytesWorld w2 5 M).cell? ⟨w.heap.size, 0, none⟩ = some (.string M) := cell_below (bw_below _ _) c2)
      | (refine Kd.R_append_rows_step (Kd.int .u8) (w0 := w1) w1.heap.size (by rfl) (.tmp 8) (.tmp 11) 22 5 (.int .u8 0) 1 rfl Try.underlying22 infoU rfl (by decide) (by decide) _ (rlit4 (M.size : Int)) (bytesOf M) _ _ _ (fun _ => True) (fun _ => False) rfl rfl (Kd.R_below (Kd.R_lower hr2 (show w1.heap.size ≤ w1.drew.heap.size from Nat.le_refl _)) (bw_below w2 M)) (conv_C w2 _ M hM (Below.refl _ _)) (fun _ _ h => h) (fun _ h => h.elim) (fun _ _ => trivial) (below_join (bw_below w2 M) (below_join hb2 (below_drew1 (Below.refl _ _)))) ((below_join (bw_below w2 M) (below_join hb2 (below_drew1 (Below.refl _ _))))).size (by show (4 + M.size) * 1 ≤ _; omega) ?_; intro v3 w3 hr3 hb3 hg3 hat3; have hc3 := cell_below hb3 x0)
      | (refine Kd.R_append_rows_step (Kd.int .u8) (w0 := w1) w1.heap.size (by rfl) (.tmp 8) (.tmp 11) 22 5 (.int .u8 0) 1 rfl Try.underlying22 infoU rfl (by decide) (by decide) _ (rlit4 (M.size : Int)) (bytesOf M) _ _ _ (fun _ => True) (fun _ => False) rfl rfl (Kd.R_lower hr2 (bw_below w1.drew M).size) (conv_C w1.drew w2 M hM hb2) (fun _ _ h => h) (fun _ h => h.elim) (fun _ _ => trivial) (below_join hb2 (below_join (bw_below w1.drew M) (below_drew1 (Below.refl _ _)))) ((below_join hb2 (below_join (bw_below w1.drew M) (below_drew1 (Below.refl _ _))))).size (by show (4 + M.size) * 1 ≤ _; omega) ?_; intro v3 w3 hr3 hb3 hg3 hat3; have hc3 := cell_below hb3 x0))
  all_goals
    have R3 := Aside0.mk hr3
    have HB3 := Aside0.mk hb3
    have y1 : w3.cell? ⟨w.heap.size, 1, none⟩ = some (.slice A F.length c) := cell_below hb3 x1
    have X1 := Aside0.mk x1
    clear hr3 hb3 hg3 hat3 hc3 hr2 hb2 x0 x1 hcv b0 b1 c2 c3
    go_upto_block 0 with (first
      | (go_at_call 74; (with_reducible refine (serinetteref18_Little.calls (F.length : Int) _ _ (rlit4_f _)).mono ?_); rintro e w4 ⟨v4, rfl, hr4, hb4⟩; obtain ⟨A4, c4, rfl⟩ := Kd.R_slice hr4; have C4 := Aside0.mk (show Kd.C (Kd.int .u8) w4 A4 4 (rlit4 (F.length : Int)) from (Kd.R_reads' hr4).2.2); have HB4 := Aside0.mk (below_join hb4 HB3.out); have R4 := Aside0.mk (Kd.R_below R3.out hb4); have y1' := cell_below HB4.out X1.out; clear hr4 hb4 y1)
      | ((with_reducible refine gate_builtin (b := .append) (xs := #[.tmp 13, .tmp 17]) rfl ?_); at_builtin; refine Kd.R_append_rows (Kd.int .u8) (w0 := w1) w1.heap.size rfl (.tmp 13) (.tmp 17) 22 5 (.int .u8 0) 1 rfl Try.underlying22 infoU rfl (by decide) (by decide) _ (rlit4 (M.size : Int) ++ bytesOf M) (rlit4 (F.length : Int)) _ _ _ (fun _ => True) (fun _ => False) rfl rfl R4.out C4.out (fun _ _ h => h) (fun _ h => h.elim) (fun _ _ => trivial) HB4.out HB4.out.size (by rw [List.length_append, bytes_size]; show (4 + M.size + 4) * 1 ≤ _; omega) ?_; intro v5 w5 hr5 hb5 hg hat; clear hg hat; have R5 := Aside0.mk hr5; have HB5 := Aside0.mk hb5; have y2 := cell_below hb5 X1.out; clear hr5 hb5 y1'))
    clear R4 R3 HB3 HB4
    go_wp2_with fail
    have R5' := Aside0.mk (show Kd.R (Kd.int .u8) 5 w5 w1.heap.size (fun _ => True) v5 (rcbodyT M F 0) from R5.out)
    clear R5 y2
    go_loopw [3, 4] (fun v i wr => ∃ k : Nat, k ≤ F.length ∧ i = .int .i64 k ∧ Aside0 (Kd.R (Kd.int .u8) 5 wr w1.heap.size (fun _ => True) v (rcbodyT M F k)) ∧ Aside0 (Below w1.heap.size w1 wr)) (fun v i _ => F.length - (intOf i).toNat)
    case atStart => exact ⟨0, Nat.zero_le _, rfl, R5', HB5⟩
    case round =>
      clear R5' HB5
      obtain ⟨k, hk, rfl, HV, HB⟩ := hrel
      have y1 : wr.cell? ⟨w.heap.size, 1, none⟩ = some (.slice A F.length c) := cell_below HB.out X1.out
      by_cases hlt : k < F.length
      · have c1 : decide ((k : Int) < (F.length : Int)) = true := decide_eq_true (by omega)
        have c2 : decide (k < F.length) = true := decide_eq_true (by omega)
        obtain ⟨ad, e1, hx⟩ := Kd.at_string (Kd.C_below HR.out HB.out) (k : Int) (by omega) (by omega)
        obtain ⟨ad0, e0, hx0⟩ := Kd.at_string HR.out (k : Int) (by omega) (by omega)
        cases e1
        cases e0
        have hx' : wr.cell? (ad.add (k : Int).toNat) = some (.string (rdB F (k : Int))) := hx
        have hx1 : w1.cell? (ad.add (k : Int).toNat) = some (.string (rdB F (k : Int))) := hx0
        rw [rdB_at F k hlt, Int.toNat_natCast] at hx' hx1
        clear hx hx0
        have hs := HS.out F[k] (List.getElem_mem hlt)
        have hst := Aside0.mk (rcbodyT_step M F k hlt)
        have hlen := Aside0.mk (rcbodyT_len M F H.out k hk)
        generalize F[k] = x at hx' hx1 hs hst
        generalize rcbodyT M F k = q at *
        have HL := Aside0.mk (show q.length ≤ 2000000 by have := hlen.out; omega)
        have HX1 := Aside0.mk hx1
        clear hx1
        have k1 : (0 : Int) ≤ (k : Int) := Int.natCast_nonneg _
        have k2 : (k : Int) < (F.length : Int) := by omega
        go_wp2_with (first
          | (go_at_call 74; (with_reducible refine (serinetteref18_Little.calls (x.size : Int) _ _ (rlit4_f _)).mono ?_); rintro e w6 ⟨v6, rfl, hr6, hb6⟩; obtain ⟨A6, c6, rfl⟩ := Kd.R_slice hr6; have C6 := Aside0.mk (show Kd.C (Kd.int .u8) w6 A6 4 (rlit4 (x.size : Int)) from (Kd.R_reads' hr6).2.2); have HB6 := Aside0.mk (below_join hb6 HB.out); have R6 := Aside0.mk (Kd.R_below HV.out hb6); clear hr6 hb6)
          | ((with_reducible refine gate_builtin (b := .append) (xs := #[.tmp 26, .tmp 33]) rfl ?_); at_builtin; refine Kd.R_append_rows (Kd.int .u8) (w0 := w1) w1.heap.size rfl (.tmp 26) (.tmp 33) 22 5 (.int .u8 0) 1 rfl Try.underlying22 infoU rfl (by decide) (by decide) _ q (rlit4 (x.size : Int)) _ _ _ (fun _ => True) (fun _ => False) rfl rfl R6.out C6.out (fun _ _ h => h) (fun _ h => h.elim) (fun _ _ => trivial) HB6.out HB6.out.size (by have := HL.out; show (q.length + 4) * 1 ≤ _; omega) ?_; intro v7 w7 hr7 hb7 hg hat; clear hg hat; have R7 := Aside0.mk hr7; have HB7 := Aside0.mk hb7; have y3 : w7.cell? ⟨w.heap.size, 1, none⟩ = some (.slice (some ad) F.length c) := cell_below hb7 X1.out; have hx7 := cell_below hb7 HX1.out; clear hr7 hb7)
          | ((with_reducible refine gate_dst (N := 41) rfl ?_); refine V_conv w1.heap.size 5 (w0 := w1) rfl (N := 41) rfl 9 22 (.tmp 40) rfl x rfl Try.underlying9 Try.underlying22 Try.underlying5 (by omega) HB7.out HB7.out.size ?_; intro v8 w8 hv8 hb8 hg8 hat8; obtain ⟨A8, c8, rfl, hc8, hf8⟩ := hv8; have C8 := Aside0.mk (Kd.F_now hf8); have HB8 := Aside0.mk hb8; have R8 := Aside0.mk (Kd.R_grown R7.out hg8 (fun _ _ h => by cases h)); clear hb8 hg8 hat8 hf8 hc8)
          | ((with_reducible refine gate_builtin (b := .append) (xs := #[.tmp 35, .tmp 41]) rfl ?_); at_builtin; refine Kd.R_append_rows (Kd.int .u8) (w0 := w1) w1.heap.size rfl (.tmp 35) (.tmp 41) 22 5 (.int .u8 0) 1 rfl Try.underlying22 infoU rfl (by decide) (by decide) _ (q ++ rlit4 (x.size : Int)) (bytesOf x) _ _ _ (fun _ => True) (fun _ => False) rfl rfl R8.out C8.out (fun _ _ h => h) (fun _ h => h.elim) (fun _ _ => trivial) HB8.out HB8.out.size (by have := HL.out; rw [List.length_append, bytes_size]; show (q.length + 4 + x.size) * 1 ≤ _; omega) ?_; intro v9 w9 hr9 hb9 hg hat; clear hg hat; have R9 := Aside0.mk hr9; have HB9 := Aside0.mk hb9; clear hr9 hb9))
        refine ⟨⟨k + 1, by omega, by go_num, ⟨by rw [hst.out]; exact R9.out⟩, HB9⟩, by simp [intOf]; omega⟩
      · obtain rfl : k = F.length := by omega
        have c1 : decide ((F.length : Int) < (F.length : Int)) = false := decide_eq_false (by omega)
        have c2 : decide (F.length < F.length) = false := decide_eq_false (by omega)
        go_wp2_with fail
        go_ret
        exact ⟨_, rfl, Kd.R_lower HV.out S0.out, below_join HB.out B0.out⟩
end Go.Proofs.Ytpeejdmbnlhjmaa.H
