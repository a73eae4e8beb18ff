/- The bytes of what a stream has, and of places (meta.infoBody, meta.seekBody), with the proofs of the calls. For any numbers, up to a million places. -/
import Derived.Test.YtpeejdmbnlhjmaaProg
import Derived.Below
import Derived.Deep.Draws
import Derived.Deep.AppendLies
import Derived.Maps.AppendAt
import Derived.OwnWalk
import Derived.Laws.BytesArg
import Derived.Laws.MakeOwn
import Derived.Laws.OwnMore
import Derived.Deep.OwnRows
import Derived.Tactics
import Derived.Lib.ConvBytes
import Derived.Laws.Slices
import Derived.WalkKit
import Derived.KernelRfl
import Derived.RowKit3
import Derived.Deep.LoopGhost
import Derived.Deep.QuietTactic
import Derived.BigQuiet
import Derived.WideLaws
import Derived.Deep.DeepCutAuto
import Derived.Deep.CutBlock
import Derived.Deep.RegionHeld3
import Derived.Laws.Rows
import Derived.Lib.AppendStr
import Derived.ArgAppend
import Derived.Laws.IdiomCopy
import Derived.OrdersHeld
import Derived.Laws.BitsLemmas
import Derived.RowKit
import Derived.Test.YtpeejdmbnlhjmaaWWords
import Derived.Test.YtpeejdmbnlhjmaaWLast
import Derived.Test.YtpeejdmbnlhjmaaWTab
import Derived.Test.YtpeejdmbnlhjmaaWFour
import Derived.Test.YtpeejdmbnlhjmaaWQPut
import Derived.Test.YtpeejdmbnlhjmaaWApart
import Derived.Test.YtpeejdmbnlhjmaaWArr
import Derived.Test.YtpeejdmbnlhjmaaWZeros
import Derived.Test.YtpeejdmbnlhjmaaWFoot
import Derived.Test.YtpeejdmbnlhjmaaWKept
import Derived.Test.YtpeejdmbnlhjmaaWShare
import Derived.Test.YtpeejdmbnlhjmaaWN
import Derived.Test.YtpeejdmbnlhjmaaWFootNe
import Derived.Test.YtpeejdmbnlhjmaaWAt
import Derived.Test.YtpeejdmbnlhjmaaWEqStruct
import Derived.Test.YtpeejdmbnlhjmaaWRepsOne
import Derived.Test.YtpeejdmbnlhjmaaWInv
import Derived.Test.YtpeejdmbnlhjmaaWInvWords
import Derived.Test.YtpeejdmbnlhjmaaWGuard
import Derived.Test.YtpeejdmbnlhjmaaWNEv
import Derived.Test.YtpeejdmbnlhjmaaWMore
import Derived.LoopN
import Derived.Outline
import Derived.Deep.RegionLaw
import Derived.Test.YtpeejdmbnlhjmaaSawake
import Derived.Test.YtpeejdmbnlhjmaaMall
namespace Go.Proofs.Ytpeejdmbnlhjmaa.H
open Go.RowKit Go.Proofs.YtpeejdmbnlhjmaaW.PrintWords Go.Proofs.YtpeejdmbnlhjmaaW.PrintLast Go.Proofs.YtpeejdmbnlhjmaaW.PrintMore
attribute [local go_sem] max2_int min2_int max_two min_two max_three min_three max_four min_four   -- for this text's walks alone
set_option linter.unusedVariables false
set_option linter.unusedSimpArgs false
structure Inf where
  (i0 i1 i2 i3 i4 i5 i6 i7 d0 d1 d2 d3 d4 d5 d6 d7 d8 d9 d10 d11 d12 d13 d14 d15 : Int)
def Inf.ds (i : Inf) : List Int := [i.d0, i.d1, i.d2, i.d3, i.d4, i.d5, i.d6, i.d7, i.d8, i.d9, i.d10, i.d11, i.d12, i.d13, i.d14, i.d15]
abbrev icells (i : Inf) : Array Value := #[.int .i64 i.i0, .int .i64 i.i1, .int .i64 i.i2, .int .i64 i.i3, .int .i64 i.i4, .int .i64 i.i5, .int .i64 i.i6, .int .i64 i.i7, .int .u8 i.d0, .int .u8 i.d1, .int .u8 i.d2, .int .u8 i.d3, .int .u8 i.d4, .int .u8 i.d5, .int .u8 i.d6, .int .u8 i.d7, .int .u8 i.d8, .int .u8 i.d9, .int .u8 i.d10, .int .u8 i.d11, .int .u8 i.d12, .int .u8 i.d13, .int .u8 i.d14, .int .u8 i.d15]
theorem C_of_mid {w : World} {g : Nat} {t : TypeId} (pre : List Value) (xs : List Int) (hg : w.heap[g]? = some (.cells (pre ++ xs.map (fun x => Value.int .u8 x)).toArray t (0, 0))) (hm : xs.length ≤ 1000000) : Kd.C (Kd.int .u8) w (some ⟨g, pre.length, none⟩) xs.length xs := by
  refine ⟨rfl, by omega, fun _ => ⟨_, rfl, fun j p hj => ⟨[.int .u8 p], rfl, rfl, fun i u hu => ?_⟩⟩⟩
  match i, hu with
  | 0, hu =>
    cases hu
    have e : (⟨g, pre.length, none⟩ : Addr).add (j * (Kd.int .u8).sz + 0) = ⟨g, pre.length + j, none⟩ := by
      show (⟨g, pre.length, none⟩ : Addr).add (j * 1 + 0) = _
      rw [Nat.mul_one, Nat.add_zero]
      unfold Addr.add
      split
      · rename_i h
        simp [h]
      · rfl
    rw [e]
    refine (blk_cell hg (pre.length + j)).trans ?_
    obtain ⟨hj1, rfl⟩ := List.getElem?_eq_some_iff.1 hj
    simp [hj1]
theorem info_mid {w : World} {g : Nat} {i : Inf} (hg : w.heap[g]? = some (.cells (icells i) 31 (0, 0))) : Kd.C (Kd.int .u8) w (some ⟨g, 8, none⟩) 16 i.ds :=
  C_of_mid [.int .i64 i.i0, .int .i64 i.i1, .int .i64 i.i2, .int .i64 i.i3, .int .i64 i.i4, .int .i64 i.i5, .int .i64 i.i6, .int .i64 i.i7] i.ds hg (Nat.le_of_ble_eq_true rfl)
theorem info_cell {w : World} {g : Nat} {i : Inf} (h : w.heap[g]? = some (.cells (icells i) 31 (0, 0))) : w.cell? ⟨g, 0, none⟩ = some (.int .i64 i.i0) ∧ w.cell? ⟨g, 1, none⟩ = some (.int .i64 i.i1) ∧ w.cell? ⟨g, 2, none⟩ = some (.int .i64 i.i2) ∧ w.cell? ⟨g, 3, none⟩ = some (.int .i64 i.i3) ∧ w.cell? ⟨g, 4, none⟩ = some (.int .i64 i.i4) ∧ w.cell? ⟨g, 5, none⟩ = some (.int .i64 i.i5) ∧ w.cell? ⟨g, 6, none⟩ = some (.int .i64 i.i6) ∧ w.cell? ⟨g, 7, none⟩ = some (.int .i64 i.i7) :=
  ⟨(blk_cell h 0).trans rfl, (blk_cell h 1).trans rfl, (blk_cell h 2).trans rfl, (blk_cell h 3).trans rfl, (blk_cell h 4).trans rfl, (blk_cell h 5).trans rfl, (blk_cell h 6).trans rfl, (blk_cell h 7).trans rfl⟩
def wput8 (s : List Int × Int) (x width : Int) : List Int × Int := wput1 s (IntKind.u64.wrap x) width
/-- The eight numbers laid. -/
def infoW (i : Inf) : List Int × Int := wput8 (wput8 (wput8 (wput8 (wput8 (wput8 (wput8 (wput8 ([], 0) i.i0 16) i.i1 16) i.i2 24) i.i3 24) i.i4 20) (wrap64 (i.i5 - 1)) 3) (wrap64 (i.i6 - 1)) 5) i.i7 36
def infoL (i : Inf) : List Int := (infoW i).1 ++ i.ds
set_option maxHeartbeats 8000000 in
set_option maxRecDepth 100000 in
theorem ibody_calls (w : World) (i : Inf) : Calls Try.prog 112 #[.agg (icells i)] w (RowTo w (infoL i)) := by
  have hb0 := blk_new w (.cells (icells i) 31)
  have K0 := Aside0.mk hb0
  have B0 := Aside0.mk (below_alloc (Below.refl w.heap.size w) (.cells (icells i) 31))
  clear hb0
  go_enter Try.func112, Try.ntmps112
  go_upto_region 1 with fail
  generalize w.alloc (.cells (icells i) 31) = w1 at *
  have S0 := B0.out.size
  have N1 := Aside0.mk (wnew w1)
  go_upto_region 2 with (first | (go_at_call 48; (with_reducible refine (new_calls _).mono ?_); rintro e w2 ⟨rfl, rfl⟩))
  generalize w1.alloc (.cells #[.slice none 0 0, .int .i64 0] 143) = w2 at *
  obtain ⟨x0, x1, x2, x3, x4, x5, x6, x7⟩ := info_cell (blk_below K0.out N1.out.bel)
  go_upto_region 3 with (first | (go_at_call 83; (with_reducible refine (put1_calls N1.out (by decide) _ _ (u64_rng _)).mono ?_); rintro e w3 ⟨rfl, v1, hw, ht⟩; have H1 := Aside0.mk hw; clear hw ht x0 x1 x2 x3 x4 x5 x6 x7))
  obtain ⟨x0, x1, x2, x3, x4, x5, x6, x7⟩ := info_cell (blk_below K0.out H1.out.bel)
  go_upto_region 4 with (first | (go_at_call 83; (with_reducible refine (put1_calls H1.out (by decide) _ _ (u64_rng _)).mono ?_); rintro e w4 ⟨rfl, v2, hw, ht⟩; have H2 := Aside0.mk hw; clear hw ht x0 x1 x2 x3 x4 x5 x6 x7))
  obtain ⟨x0, x1, x2, x3, x4, x5, x6, x7⟩ := info_cell (blk_below K0.out H2.out.bel)
  go_upto_region 5 with (first | (go_at_call 83; (with_reducible refine (put1_calls H2.out (by decide) _ _ (u64_rng _)).mono ?_); rintro e w5 ⟨rfl, v3, hw, ht⟩; have H3 := Aside0.mk hw; clear hw ht x0 x1 x2 x3 x4 x5 x6 x7))
  obtain ⟨x0, x1, x2, x3, x4, x5, x6, x7⟩ := info_cell (blk_below K0.out H3.out.bel)
  go_upto_region 6 with (first | (go_at_call 83; (with_reducible refine (put1_calls H3.out (by decide) _ _ (u64_rng _)).mono ?_); rintro e w6 ⟨rfl, v4, hw, ht⟩; have H4 := Aside0.mk hw; clear hw ht x0 x1 x2 x3 x4 x5 x6 x7))
  obtain ⟨x0, x1, x2, x3, x4, x5, x6, x7⟩ := info_cell (blk_below K0.out H4.out.bel)
  go_upto_region 7 with (first | (go_at_call 83; (with_reducible refine (put1_calls H4.out (by decide) _ _ (u64_rng _)).mono ?_); rintro e w7 ⟨rfl, v5, hw, ht⟩; have H5 := Aside0.mk hw; clear hw ht x0 x1 x2 x3 x4 x5 x6 x7))
  obtain ⟨x0, x1, x2, x3, x4, x5, x6, x7⟩ := info_cell (blk_below K0.out H5.out.bel)
  go_upto_region 8 with (first | (go_at_call 83; (with_reducible refine (put1_calls H5.out (by decide) _ _ (u64_rng _)).mono ?_); rintro e w8 ⟨rfl, v6, hw, ht⟩; have H6 := Aside0.mk hw; clear hw ht x0 x1 x2 x3 x4 x5 x6 x7))
  obtain ⟨x0, x1, x2, x3, x4, x5, x6, x7⟩ := info_cell (blk_below K0.out H6.out.bel)
  go_upto_region 9 with (first | (go_at_call 83; (with_reducible refine (put1_calls H6.out (by decide) _ _ (u64_rng _)).mono ?_); rintro e w9 ⟨rfl, v7, hw, ht⟩; have H7 := Aside0.mk hw; clear hw ht x0 x1 x2 x3 x4 x5 x6 x7))
  obtain ⟨x0, x1, x2, x3, x4, x5, x6, x7⟩ := info_cell (blk_below K0.out H7.out.bel)
  go_upto_region 10 with (first | (go_at_call 83; (with_reducible refine (put1_calls H7.out (by decide) _ _ (u64_rng _)).mono ?_); rintro e w10 ⟨rfl, v8, hw, ht⟩; have H8 := Aside0.mk hw; clear hw ht x0 x1 x2 x3 x4 x5 x6 x7))
  have H9 : Aside0 (∃ s N, WAt w1.heap.size w1 w1.heap.size v8 s N w10 ∧ N ≤ 1000 ∧ s = infoW i) := ⟨⟨_, _, H8.out, by decide, by unfold infoW wput8; rfl⟩⟩
  obtain ⟨s, M, hw, hM, hs⟩ := H9.out
  have E9 := Aside0.mk hs
  have H8 := Aside0.mk hw
  have hlen : s.1.length ≤ 1000 := by
    have h := hw.ok
    have h1 := h.1
    have h2 := h.2.1
    have h3 := h.2.2
    omega
  clear hs hM hw H9 H1 H2 H3 H4 H5 H6 H7
  have HL := Aside0.mk hlen
  have CM := Aside0.mk (info_mid (blk_below K0.out H8.out.bel))
  clear hlen
  go_region_held3 (fun W => Below w10.heap.size w10 W)
    (first | (go_keep; done) | (((try go_split_ands); (repeat' apply And.intro)) <;> first | assumption | exact below_drew (Below.refl _ _) | exact below_drew ‹_› | exact below_alloc ‹_› _ | exact below_join ‹_› ‹_›))
    (first
      | (go_at_call 51; go_split_ands; (with_reducible refine (bytes_calls (H8.out.other (below_drew1 (Below.refl _ _))).1.st (by have := HL.out; omega)).mono ?_); rintro e w11 ⟨v11, rfl, hr11, hb11⟩)
      | (refine Kd.R_append_rows_step (Kd.int .u8) (w0 := w10) w10.heap.size (by rfl) (.tmp 48) (.tmp 50) 22 5 (.int .u8 0) 1 rfl Try.underlying22 infoU rfl (by decide) (by decide) _ s.1 i.ds _ _ _ (fun _ => True) (fun _ => False) rfl rfl (Kd.R_lower hr11 (Nat.le_refl _)) (Kd.C_below CM.out (below_join hb11 (below_drew1 (Below.refl _ _)))) (fun _ _ h => h) (fun _ h => h.elim) (fun _ _ => trivial) (below_join hb11 (below_drew1 (Below.refl _ _))) hb11.size (by have := HL.out; omega) ?_; intro v12 w12 hr12 hb12 hg12 hat12)
      | fail)
  have R12 := Aside0.mk hr12
  have B12 := Aside0.mk (below_step (below_step B0.out H8.out.bel) hb12)
  have HZ := Aside0.mk (below_step B0.out H8.out.bel).size
  clear hr12 hb12 hg12 hat12 hr11 hb11
  go_wp2_with fail
  go_ret
  refine ⟨_, rfl, ?_, B12.out⟩
  rw [show infoL i = s.1 ++ i.ds by rw [E9.out]; rfl]
  exact Kd.R_lower R12.out HZ.out
end Go.Proofs.Ytpeejdmbnlhjmaa.H
