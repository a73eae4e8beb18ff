/- The document's bytes of what a stream has (serinetteref18.InfoBody), as a plain function, with the proof that the program's call comes to it. For any numbers. -/
import Derived.Test.YtpeejdmbnlhjmaaProg
import Derived.Below
import Derived.Deep.Draws
import Derived.Deep.AppendLies
import Derived.Maps.AppendAt
import Derived.OwnWalk
import Derived.Laws.BytesArg
import Derived.Laws.MakeOwn
import Derived.Laws.OwnMore
import Derived.Deep.OwnRows
import Derived.Tactics
import Derived.Lib.ConvBytes
import Derived.Laws.Slices
import Derived.WalkKit
import Derived.KernelRfl
import Derived.RowKit3
import Derived.Deep.LoopGhost
import Derived.Deep.QuietTactic
import Derived.BigQuiet
import Derived.WideLaws
import Derived.Deep.DeepCutAuto
import Derived.Deep.CutBlock
import Derived.Deep.RegionHeld3
import Derived.Laws.Rows
import Derived.Lib.AppendStr
import Derived.ArgAppend
import Derived.Laws.IdiomCopy
import Derived.OrdersHeld
import Derived.Laws.BitsLemmas
import Derived.RowKit
import Derived.Test.YtpeejdmbnlhjmaaWWords
import Derived.Test.YtpeejdmbnlhjmaaWLast
import Derived.Test.YtpeejdmbnlhjmaaWTab
import Derived.Test.YtpeejdmbnlhjmaaWFour
import Derived.Test.YtpeejdmbnlhjmaaWQPut
import Derived.Test.YtpeejdmbnlhjmaaWApart
import Derived.Test.YtpeejdmbnlhjmaaWArr
import Derived.Test.YtpeejdmbnlhjmaaWZeros
import Derived.Test.YtpeejdmbnlhjmaaWFoot
import Derived.Test.YtpeejdmbnlhjmaaWKept
import Derived.Test.YtpeejdmbnlhjmaaWShare
import Derived.Test.YtpeejdmbnlhjmaaWN
import Derived.Test.YtpeejdmbnlhjmaaWFootNe
import Derived.Test.YtpeejdmbnlhjmaaWAt
import Derived.Test.YtpeejdmbnlhjmaaWEqStruct
import Derived.Test.YtpeejdmbnlhjmaaWRepsOne
import Derived.Test.YtpeejdmbnlhjmaaWInv
import Derived.Test.YtpeejdmbnlhjmaaWInvWords
import Derived.Test.YtpeejdmbnlhjmaaWGuard
import Derived.Test.YtpeejdmbnlhjmaaWNEv
import Derived.Test.YtpeejdmbnlhjmaaWMore
import Derived.LoopN
import Derived.Outline
import Derived.Deep.RegionLaw
import Derived.Test.YtpeejdmbnlhjmaaWbody
import Derived.Test.YtpeejdmbnlhjmaaMpre
namespace Go.Proofs.Ytpeejdmbnlhjmaa.H
open Go.RowKit Go.Proofs.YtpeejdmbnlhjmaaW.PrintWords Go.Proofs.YtpeejdmbnlhjmaaW.PrintLast Go.Proofs.YtpeejdmbnlhjmaaW.PrintMore
attribute [local go_sem] max2_int min2_int max_two min_two max_three min_three max_four min_four   -- for this text's walks alone
set_option linter.unusedVariables false
set_option linter.unusedSimpArgs false
set_option maxHeartbeats 8000000 in
set_option maxRecDepth 100000 in
theorem rbody_main (k : Nat) (w : World) (i : Inf) (l0 l1 l2 l3 l4 l5 l6 l7 : List Bool) (h0 : serinetteref01_Digits.f k (IntKind.u64.wrap i.i0) 16 = some l0) (h1 : serinetteref01_Digits.f k (IntKind.u64.wrap i.i1) 16 = some l1) (h2 : serinetteref01_Digits.f k (IntKind.u64.wrap i.i2) 24 = some l2) (h3 : serinetteref01_Digits.f k (IntKind.u64.wrap i.i3) 24 = some l3) (h4 : serinetteref01_Digits.f k (IntKind.u64.wrap i.i4) 20 = some l4) (h5 : serinetteref01_Digits.f k (IntKind.u64.wrap (wrap64 (i.i5 - 1))) 3 = some l5) (h6 : serinetteref01_Digits.f k (IntKind.u64.wrap (wrap64 (i.i6 - 1))) 5 = some l6) (h7 : serinetteref01_Digits.f k (IntKind.u64.wrap i.i7) 36 = some l7) (b : List Int) (hB : serinetteref01_Bytes.f k (l0 ++ l1 ++ l2 ++ l3 ++ l4 ++ l5 ++ l6 ++ l7) = some b) (hl : l0.length ≤ 1000 ∧ l1.length ≤ 1000 ∧ l2.length ≤ 1000 ∧ l3.length ≤ 1000 ∧ l4.length ≤ 1000 ∧ l5.length ≤ 1000 ∧ l6.length ≤ 1000 ∧ l7.length ≤ 1000) (hb : b.length ≤ 1000) : Calls Try.prog 29 #[.agg (icells i)] w (RowTo w (b ++ i.ds)) := by
  have hb0 := blk_new w (.cells (icells i) 31)
  have K0 := Aside0.mk hb0
  have B0 := Aside0.mk (below_alloc (Below.refl w.heap.size w) (.cells (icells i) 31))
  have D0 := Aside0.mk h0
  have D1 := Aside0.mk h1
  have D2 := Aside0.mk h2
  have D3 := Aside0.mk h3
  have D4 := Aside0.mk h4
  have D5 := Aside0.mk h5
  have D6 := Aside0.mk h6
  have D7 := Aside0.mk h7
  have DB := Aside0.mk hB
  have HL := Aside0.mk hl
  have HLB := Aside0.mk hb
  clear hb0 hB hl hb h0 h1 h2 h3 h4 h5 h6 h7
  go_enter Try.func29, Try.ntmps29
  go_upto_region 1 with fail
  generalize w.alloc (.cells (icells i) 31) = w1 at *
  have S0 := Aside0.mk B0.out.size
  obtain ⟨x0, x1, x2, x3, x4, x5, x6, x7⟩ := info_cell K0.out
  go_upto_region 2 with (first | (go_at_call 71; (with_reducible refine (serinetteref01_Digits.calls k _ 16 l0 _ D0.out).mono ?_); rintro e w2 ⟨v2, rfl, hr2, hb2⟩; have R2 := Aside0.mk hr2; have HB2 := Aside0.mk hb2; clear hr2 hb2 x0 x1 x2 x3 x4 x5 x6 x7))
  obtain ⟨x0, x1, x2, x3, x4, x5, x6, x7⟩ := info_cell (blk_below K0.out HB2.out)
  go_upto_region 3 with (first | (go_at_call 71; (with_reducible refine (serinetteref01_Digits.calls k _ 16 l1 _ D1.out).mono ?_); rintro e w3 ⟨u1, rfl, hr, hb⟩; obtain ⟨A1, c1, rfl⟩ := Kd.R_slice hr; have C1 := Aside0.mk (Kd.R_reads' hr).2.2; have HB3 := Aside0.mk (below_join hb HB2.out); have R3 := Aside0.mk (Kd.R_below R2.out hb); clear hr hb x0 x1 x2 x3 x4 x5 x6 x7) | ((with_reducible refine gate_builtin (b := .append) (xs := #[.tmp 10, .tmp 14]) rfl ?_); at_builtin; refine Kd.R_append_rows Kd.bool (w0 := w1) w1.heap.size rfl (.tmp 10) (.tmp 14) 103 4 (.bool false) 1 rfl Try.underlying103 info4 rfl (by decide) (by decide) _ (l0) l1 _ _ _ (fun _ => True) (fun _ => False) rfl rfl R3.out C1.out (fun _ _ h => h) (fun _ h => h.elim) (fun _ _ => trivial) HB3.out HB3.out.size (by have := HL.out; (try simp only [List.length_append]); omega) ?_; intro v4 w4 hr hb hg hat; clear hg hat; have R4 := Aside0.mk hr; have HB4 := Aside0.mk hb; clear hr hb))
  obtain ⟨x0, x1, x2, x3, x4, x5, x6, x7⟩ := info_cell (blk_below K0.out HB4.out)
  go_upto_region 4 with (first | (go_at_call 71; (with_reducible refine (serinetteref01_Digits.calls k _ 24 l2 _ D2.out).mono ?_); rintro e w5 ⟨u2, rfl, hr, hb⟩; obtain ⟨A2, c2, rfl⟩ := Kd.R_slice hr; have C2 := Aside0.mk (Kd.R_reads' hr).2.2; have HB5 := Aside0.mk (below_join hb HB4.out); have R5 := Aside0.mk (Kd.R_below R4.out hb); clear hr hb x0 x1 x2 x3 x4 x5 x6 x7) | ((with_reducible refine gate_builtin (b := .append) (xs := #[.tmp 16, .tmp 20]) rfl ?_); at_builtin; refine Kd.R_append_rows Kd.bool (w0 := w1) w1.heap.size rfl (.tmp 16) (.tmp 20) 103 4 (.bool false) 1 rfl Try.underlying103 info4 rfl (by decide) (by decide) _ (l0 ++ l1) l2 _ _ _ (fun _ => True) (fun _ => False) rfl rfl R5.out C2.out (fun _ _ h => h) (fun _ h => h.elim) (fun _ _ => trivial) HB5.out HB5.out.size (by have := HL.out; (try simp only [List.length_append]); omega) ?_; intro v6 w6 hr hb hg hat; clear hg hat; have R6 := Aside0.mk hr; have HB6 := Aside0.mk hb; clear hr hb))
  obtain ⟨x0, x1, x2, x3, x4, x5, x6, x7⟩ := info_cell (blk_below K0.out HB6.out)
  go_upto_region 5 with (first | (go_at_call 71; (with_reducible refine (serinetteref01_Digits.calls k _ 24 l3 _ D3.out).mono ?_); rintro e w7 ⟨u3, rfl, hr, hb⟩; obtain ⟨A3, c3, rfl⟩ := Kd.R_slice hr; have C3 := Aside0.mk (Kd.R_reads' hr).2.2; have HB7 := Aside0.mk (below_join hb HB6.out); have R7 := Aside0.mk (Kd.R_below R6.out hb); clear hr hb x0 x1 x2 x3 x4 x5 x6 x7) | ((with_reducible refine gate_builtin (b := .append) (xs := #[.tmp 22, .tmp 26]) rfl ?_); at_builtin; refine Kd.R_append_rows Kd.bool (w0 := w1) w1.heap.size rfl (.tmp 22) (.tmp 26) 103 4 (.bool false) 1 rfl Try.underlying103 info4 rfl (by decide) (by decide) _ (l0 ++ l1 ++ l2) l3 _ _ _ (fun _ => True) (fun _ => False) rfl rfl R7.out C3.out (fun _ _ h => h) (fun _ h => h.elim) (fun _ _ => trivial) HB7.out HB7.out.size (by have := HL.out; (try simp only [List.length_append]); omega) ?_; intro v8 w8 hr hb hg hat; clear hg hat; have R8 := Aside0.mk hr; have HB8 := Aside0.mk hb; clear hr hb))
  obtain ⟨x0, x1, x2, x3, x4, x5, x6, x7⟩ := info_cell (blk_below K0.out HB8.out)
  go_upto_region 6 with (first | (go_at_call 71; (with_reducible refine (serinetteref01_Digits.calls k _ 20 l4 _ D4.out).mono ?_); rintro e w9 ⟨u4, rfl, hr, hb⟩; obtain ⟨A4, c4, rfl⟩ := Kd.R_slice hr; have C4 := Aside0.mk (Kd.R_reads' hr).2.2; have HB9 := Aside0.mk (below_join hb HB8.out); have R9 := Aside0.mk (Kd.R_below R8.out hb); clear hr hb x0 x1 x2 x3 x4 x5 x6 x7) | ((with_reducible refine gate_builtin (b := .append) (xs := #[.tmp 28, .tmp 32]) rfl ?_); at_builtin; refine Kd.R_append_rows Kd.bool (w0 := w1) w1.heap.size rfl (.tmp 28) (.tmp 32) 103 4 (.bool false) 1 rfl Try.underlying103 info4 rfl (by decide) (by decide) _ (l0 ++ l1 ++ l2 ++ l3) l4 _ _ _ (fun _ => True) (fun _ => False) rfl rfl R9.out C4.out (fun _ _ h => h) (fun _ h => h.elim) (fun _ _ => trivial) HB9.out HB9.out.size (by have := HL.out; (try simp only [List.length_append]); omega) ?_; intro v10 w10 hr hb hg hat; clear hg hat; have R10 := Aside0.mk hr; have HB10 := Aside0.mk hb; clear hr hb))
  obtain ⟨x0, x1, x2, x3, x4, x5, x6, x7⟩ := info_cell (blk_below K0.out HB10.out)
  go_upto_region 7 with (first | (go_at_call 71; (with_reducible refine (serinetteref01_Digits.calls k _ 3 l5 _ D5.out).mono ?_); rintro e w11 ⟨u5, rfl, hr, hb⟩; obtain ⟨A5, c5, rfl⟩ := Kd.R_slice hr; have C5 := Aside0.mk (Kd.R_reads' hr).2.2; have HB11 := Aside0.mk (below_join hb HB10.out); have R11 := Aside0.mk (Kd.R_below R10.out hb); clear hr hb x0 x1 x2 x3 x4 x5 x6 x7) | ((with_reducible refine gate_builtin (b := .append) (xs := #[.tmp 34, .tmp 39]) rfl ?_); at_builtin; refine Kd.R_append_rows Kd.bool (w0 := w1) w1.heap.size rfl (.tmp 34) (.tmp 39) 103 4 (.bool false) 1 rfl Try.underlying103 info4 rfl (by decide) (by decide) _ (l0 ++ l1 ++ l2 ++ l3 ++ l4) l5 _ _ _ (fun _ => True) (fun _ => False) rfl rfl R11.out C5.out (fun _ _ h => h) (fun _ h => h.elim) (fun _ _ => trivial) HB11.out HB11.out.size (by have := HL.out; (try simp only [List.length_append]); omega) ?_; intro v12 w12 hr hb hg hat; clear hg hat; have R12 := Aside0.mk hr; have HB12 := Aside0.mk hb; clear hr hb))
  obtain ⟨x0, x1, x2, x3, x4, x5, x6, x7⟩ := info_cell (blk_below K0.out HB12.out)
  go_upto_region 8 with (first | (go_at_call 71; (with_reducible refine (serinetteref01_Digits.calls k _ 5 l6 _ D6.out).mono ?_); rintro e w13 ⟨u6, rfl, hr, hb⟩; obtain ⟨A6, c6, rfl⟩ := Kd.R_slice hr; have C6 := Aside0.mk (Kd.R_reads' hr).2.2; have HB13 := Aside0.mk (below_join hb HB12.out); have R13 := Aside0.mk (Kd.R_below R12.out hb); clear hr hb x0 x1 x2 x3 x4 x5 x6 x7) | ((with_reducible refine gate_builtin (b := .append) (xs := #[.tmp 41, .tmp 46]) rfl ?_); at_builtin; refine Kd.R_append_rows Kd.bool (w0 := w1) w1.heap.size rfl (.tmp 41) (.tmp 46) 103 4 (.bool false) 1 rfl Try.underlying103 info4 rfl (by decide) (by decide) _ (l0 ++ l1 ++ l2 ++ l3 ++ l4 ++ l5) l6 _ _ _ (fun _ => True) (fun _ => False) rfl rfl R13.out C6.out (fun _ _ h => h) (fun _ h => h.elim) (fun _ _ => trivial) HB13.out HB13.out.size (by have := HL.out; (try simp only [List.length_append]); omega) ?_; intro v14 w14 hr hb hg hat; clear hg hat; have R14 := Aside0.mk hr; have HB14 := Aside0.mk hb; clear hr hb))
  obtain ⟨x0, x1, x2, x3, x4, x5, x6, x7⟩ := info_cell (blk_below K0.out HB14.out)
  go_upto_region 9 with (first | (go_at_call 71; (with_reducible refine (serinetteref01_Digits.calls k _ 36 l7 _ D7.out).mono ?_); rintro e w15 ⟨u7, rfl, hr, hb⟩; obtain ⟨A7, c7, rfl⟩ := Kd.R_slice hr; have C7 := Aside0.mk (Kd.R_reads' hr).2.2; have HB15 := Aside0.mk (below_join hb HB14.out); have R15 := Aside0.mk (Kd.R_below R14.out hb); clear hr hb x0 x1 x2 x3 x4 x5 x6 x7) | ((with_reducible refine gate_builtin (b := .append) (xs := #[.tmp 48, .tmp 52]) rfl ?_); at_builtin; refine Kd.R_append_rows Kd.bool (w0 := w1) w1.heap.size rfl (.tmp 48) (.tmp 52) 103 4 (.bool false) 1 rfl Try.underlying103 info4 rfl (by decide) (by decide) _ (l0 ++ l1 ++ l2 ++ l3 ++ l4 ++ l5 ++ l6) l7 _ _ _ (fun _ => True) (fun _ => False) rfl rfl R15.out C7.out (fun _ _ h => h) (fun _ h => h.elim) (fun _ _ => trivial) HB15.out HB15.out.size (by have := HL.out; (try simp only [List.length_append]); omega) ?_; intro v16 w16 hr hb hg hat; clear hg hat; have R16 := Aside0.mk hr; have HB16 := Aside0.mk hb; clear hr hb))
  have E16 : ∃ Q : List Bool, Kd.R Kd.bool 4 w16 w1.heap.size (fun _ => True) v16 Q ∧ serinetteref01_Bytes.f k Q = some b := ⟨_, R16.out, DB.out⟩
  obtain ⟨Q, hq1, hq2⟩ := E16
  clear R16 DB
  have R16 := Aside0.mk hq1
  have DB := Aside0.mk hq2
  clear hq1 hq2
  obtain ⟨A8, c8, hv8⟩ := Kd.R_slice R16.out
  subst hv8
  have C8 := Aside0.mk (Kd.R_reads' R16.out).2.2
  have G8 := Aside0.mk (Kd.R_reads' R16.out).2.1
  go_upto_region 10 with (first | (go_at_call 72; (with_reducible refine (serinetteref01_Bytes.calls k A8 c8 Q b _ C8.out G8.out DB.out).mono ?_); rintro e w17 ⟨v17, rfl, hr, hb⟩; have R17 := Aside0.mk (Kd.R_lower hr HB16.out.size); have HB17 := Aside0.mk (below_join hb HB16.out); clear hr hb))
  go_upto_block 0 with fail
  go_wp2_with fail
  have R17' := Aside0.mk (show Kd.R (Kd.int .u8) 5 w17 w1.heap.size (fun _ => True) v17 (b ++ i.ds.take 0) by rw [List.take_zero, List.append_nil]; exact R17.out)
  clear R17 R16 C8 G8
  go_loopw [4, 5] (fun v t wr => ∃ n : Nat, n ≤ 16 ∧ t = .int .i64 n ∧ Aside0 (Kd.R (Kd.int .u8) 5 wr w1.heap.size (fun _ => True) v (b ++ i.ds.take n)) ∧ Aside0 (Below w1.heap.size w1 wr)) (fun v t _ => 16 - (intOf t).toNat)
  case atStart => exact ⟨0, Nat.zero_le _, rfl, R17', HB17⟩
  case round =>
    clear R17' HB17
    obtain ⟨n, hn, rfl, HV, HB⟩ := hrel
    by_cases hlt : n < 16
    · have c1 : decide ((n : Int) < 16) = true := decide_eq_true (by omega)
      have c2 : decide (n < 16) = true := decide_eq_true hlt
      have hds : n < i.ds.length := hlt
      obtain ⟨ad, e1, hx⟩ := Kd.at_int (info_mid (blk_below K0.out HB.out)) (n : Int) (by omega) (by omega)
      cases e1
      rw [rd_at i.ds n hds, Int.toNat_natCast] at hx
      have hadd : (⟨w.heap.size, 8, none⟩ : Addr).add n = ⟨w.heap.size, 8 + n, none⟩ := by
        unfold Addr.add
        split
        · rename_i h
          simp [h]
        · rfl
      have hx2 : wr.cell? ⟨w.heap.size, 8 + n, none⟩ = some (.int .u8 i.ds[n]) := by rw [← hadd]; exact hx
      have hst := Aside0.mk (show b ++ i.ds.take (n + 1) = (b ++ i.ds.take n) ++ [i.ds[n]] by rw [List.take_succ_eq_append_getElem hds, List.append_assoc])
      have hlen := Aside0.mk (show (b ++ i.ds.take n).length ≤ 1100 by have := HLB.out; rw [List.length_append, List.length_take]; omega)
      generalize i.ds[n] = x at hx hx2 hst
      generalize b ++ i.ds.take n = q at *
      have k1 : (0 : Int) ≤ (n : Int) := Int.natCast_nonneg _
      have k2 : (n : Int) < 16 := by omega
      have k3 : (n : Int) ≤ 16 := by omega
      go_wp2_with (first | ((with_reducible refine gate_builtin (b := .append) (xs := #[.tmp 60, .tmp 65]) rfl ?_); at_builtin; refine Kd.R_append (Kd.int .u8) (w0 := w1) w1.heap.size rfl (.tmp 60) (.tmp 65) 22 5 (.int .u8 0) 1 rfl Try.underlying22 infoU rfl (by decide) (by decide) _ q x [.int .u8 x] (fun _ => True) (fun _ => False) rfl rfl rfl (fun _ hk => hk.elim) (fun _ _ => trivial) HV.out HB.out HB.out.size (by have := hlen.out; omega) ?_; intro v18 w18 hr hb hg hat; have R18 := Aside0.mk hr; have HB18 := Aside0.mk hb; clear hr hb hg hat))
      refine ⟨⟨n + 1, by omega, by go_num, ⟨by rw [hst.out]; exact R18.out⟩, HB18⟩, by simp [intOf]; omega⟩
    · obtain rfl : n = 16 := by omega
      have hv := HV.out
      rw [show i.ds.take 16 = i.ds from rfl] at hv
      have HE := Aside0.mk hv
      clear hv HV
      go_wp2_with fail
      go_ret
      exact ⟨_, rfl, Kd.R_lower HE.out S0.out, below_join HB.out B0.out⟩
def serinetteref18_InfoBody.f (k : Nat) (a0_0 a0_1 a0_2 a0_3 a0_4 a0_5 a0_6 a0_7 a0_8 a0_9 a0_10 a0_11 a0_12 a0_13 a0_14 a0_15 a0_16 a0_17 a0_18 a0_19 a0_20 a0_21 a0_22 a0_23 : Int) : Option (List Int) := (serinetteref01_Digits.f k (IntKind.u64.wrap a0_0) 16).bind fun l0 => (serinetteref01_Digits.f k (IntKind.u64.wrap a0_1) 16).bind fun l1 => (serinetteref01_Digits.f k (IntKind.u64.wrap a0_2) 24).bind fun l2 => (serinetteref01_Digits.f k (IntKind.u64.wrap a0_3) 24).bind fun l3 => (serinetteref01_Digits.f k (IntKind.u64.wrap a0_4) 20).bind fun l4 => (serinetteref01_Digits.f k (IntKind.u64.wrap (wrap64 (a0_5 - 1))) 3).bind fun l5 => (serinetteref01_Digits.f k (IntKind.u64.wrap (wrap64 (a0_6 - 1))) 5).bind fun l6 => (serinetteref01_Digits.f k (IntKind.u64.wrap a0_7) 36).bind fun l7 => if l0.length ≤ 1000 ∧ l1.length ≤ 1000 ∧ l2.length ≤ 1000 ∧ l3.length ≤ 1000 ∧ l4.length ≤ 1000 ∧ l5.length ≤ 1000 ∧ l6.length ≤ 1000 ∧ l7.length ≤ 1000 then (serinetteref01_Bytes.f k (l0 ++ l1 ++ l2 ++ l3 ++ l4 ++ l5 ++ l6 ++ l7)).bind fun b => if b.length ≤ 1000 then some (b ++ [a0_8, a0_9, a0_10, a0_11, a0_12, a0_13, a0_14, a0_15, a0_16, a0_17, a0_18, a0_19, a0_20, a0_21, a0_22, a0_23]) else none else none
theorem serinetteref18_InfoBody.mono : ∀ a0_0 a0_1 a0_2 a0_3 a0_4 a0_5 a0_6 a0_7 a0_8 a0_9 a0_10 a0_11 a0_12 a0_13 a0_14 a0_15 a0_16 a0_17 a0_18 a0_19 a0_20 a0_21 a0_22 a0_23 k, LeO (serinetteref18_InfoBody.f k a0_0 a0_1 a0_2 a0_3 a0_4 a0_5 a0_6 a0_7 a0_8 a0_9 a0_10 a0_11 a0_12 a0_13 a0_14 a0_15 a0_16 a0_17 a0_18 a0_19 a0_20 a0_21 a0_22 a0_23) (serinetteref18_InfoBody.f (k + 1) a0_0 a0_1 a0_2 a0_3 a0_4 a0_5 a0_6 a0_7 a0_8 a0_9 a0_10 a0_11 a0_12 a0_13 a0_14 a0_15 a0_16 a0_17 a0_18 a0_19 a0_20 a0_21 a0_22 a0_23) := by
  intro a0_0 a0_1 a0_2 a0_3 a0_4 a0_5 a0_6 a0_7 a0_8 a0_9 a0_10 a0_11 a0_12 a0_13 a0_14 a0_15 a0_16 a0_17 a0_18 a0_19 a0_20 a0_21 a0_22 a0_23 k
  unfold serinetteref18_InfoBody.f
  refine LeO.bind (serinetteref01_Digits.mono _ _ k) fun _ => LeO.bind (serinetteref01_Digits.mono _ _ k) fun _ => LeO.bind (serinetteref01_Digits.mono _ _ k) fun _ => LeO.bind (serinetteref01_Digits.mono _ _ k) fun _ => LeO.bind (serinetteref01_Digits.mono _ _ k) fun _ => LeO.bind (serinetteref01_Digits.mono _ _ k) fun _ => LeO.bind (serinetteref01_Digits.mono _ _ k) fun _ => LeO.bind (serinetteref01_Digits.mono _ _ k) fun _ => LeO.ite (LeO.bind (serinetteref01_Bytes.mono _ k) fun _ => LeO.refl _) (LeO.none _)
theorem serinetteref18_InfoBody.calls (k : Nat) (a0_0 a0_1 a0_2 a0_3 a0_4 a0_5 a0_6 a0_7 a0_8 a0_9 a0_10 a0_11 a0_12 a0_13 a0_14 a0_15 a0_16 a0_17 a0_18 a0_19 a0_20 a0_21 a0_22 a0_23 : Int) (r : List Int) (w : World) (h : serinetteref18_InfoBody.f k a0_0 a0_1 a0_2 a0_3 a0_4 a0_5 a0_6 a0_7 a0_8 a0_9 a0_10 a0_11 a0_12 a0_13 a0_14 a0_15 a0_16 a0_17 a0_18 a0_19 a0_20 a0_21 a0_22 a0_23 = some r) :
    Calls Try.prog 29 #[.agg #[.int .i64 a0_0, .int .i64 a0_1, .int .i64 a0_2, .int .i64 a0_3, .int .i64 a0_4, .int .i64 a0_5, .int .i64 a0_6, .int .i64 a0_7, .int .u8 a0_8, .int .u8 a0_9, .int .u8 a0_10, .int .u8 a0_11, .int .u8 a0_12, .int .u8 a0_13, .int .u8 a0_14, .int .u8 a0_15, .int .u8 a0_16, .int .u8 a0_17, .int .u8 a0_18, .int .u8 a0_19, .int .u8 a0_20, .int .u8 a0_21, .int .u8 a0_22, .int .u8 a0_23]] w fun e w' => ∃ v0_ : Value, e = .returned (v0_) ∧ Kd.R (Kd.int .u8) 5 w' w.heap.size (fun _ => True) v0_ r ∧ Below w.heap.size w w' := by
  unfold serinetteref18_InfoBody.f at h
  obtain ⟨l0, h0, h⟩ := Option.bind_eq_some_iff.mp h
  obtain ⟨l1, h1, h⟩ := Option.bind_eq_some_iff.mp h
  obtain ⟨l2, h2, h⟩ := Option.bind_eq_some_iff.mp h
  obtain ⟨l3, h3, h⟩ := Option.bind_eq_some_iff.mp h
  obtain ⟨l4, h4, h⟩ := Option.bind_eq_some_iff.mp h
  obtain ⟨l5, h5, h⟩ := Option.bind_eq_some_iff.mp h
  obtain ⟨l6, h6, h⟩ := Option.bind_eq_some_iff.mp h
  obtain ⟨l7, h7, h⟩ := Option.bind_eq_some_iff.mp h
  split at h
  case isFalse => cases h
  rename_i hl
  obtain ⟨b, hB, h⟩ := Option.bind_eq_some_iff.mp h
  split at h
  case isFalse => cases h
  rename_i hb
  obtain rfl := Option.some.inj h
  exact rbody_main k w ⟨a0_0, a0_1, a0_2, a0_3, a0_4, a0_5, a0_6, a0_7, a0_8, a0_9, a0_10, a0_11, a0_12, a0_13, a0_14, a0_15, a0_16, a0_17, a0_18, a0_19, a0_20, a0_21, a0_22, a0_23⟩ l0 l1 l2 l3 l4 l5 l6 l7 h0 h1 h2 h3 h4 h5 h6 h7 b hB hl hb
end Go.Proofs.Ytpeejdmbnlhjmaa.H
