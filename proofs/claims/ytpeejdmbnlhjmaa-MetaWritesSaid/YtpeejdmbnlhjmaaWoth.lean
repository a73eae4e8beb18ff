/- Any block written (meta.written, meta.Other), with the proofs of the calls. For any kind, any bytes up to 2^40. -/
import Derived.Test.YtpeejdmbnlhjmaaProg
import Derived.Below
import Derived.Deep.Draws
import Derived.Deep.AppendLies
import Derived.Maps.AppendAt
import Derived.OwnWalk
import Derived.Laws.BytesArg
import Derived.Laws.MakeOwn
import Derived.Laws.OwnMore
import Derived.Deep.OwnRows
import Derived.Tactics
import Derived.Lib.ConvBytes
import Derived.Laws.Slices
import Derived.WalkKit
import Derived.KernelRfl
import Derived.RowKit3
import Derived.Deep.LoopGhost
import Derived.Deep.QuietTactic
import Derived.BigQuiet
import Derived.WideLaws
import Derived.Deep.DeepCutAuto
import Derived.Deep.CutBlock
import Derived.Deep.RegionHeld3
import Derived.Laws.Rows
import Derived.Lib.AppendStr
import Derived.ArgAppend
import Derived.Laws.IdiomCopy
import Derived.OrdersHeld
import Derived.Laws.BitsLemmas
import Derived.RowKit
import Derived.Test.YtpeejdmbnlhjmaaWWords
import Derived.Test.YtpeejdmbnlhjmaaWLast
import Derived.Test.YtpeejdmbnlhjmaaWTab
import Derived.Test.YtpeejdmbnlhjmaaWFour
import Derived.Test.YtpeejdmbnlhjmaaWQPut
import Derived.Test.YtpeejdmbnlhjmaaWApart
import Derived.Test.YtpeejdmbnlhjmaaWArr
import Derived.Test.YtpeejdmbnlhjmaaWZeros
import Derived.Test.YtpeejdmbnlhjmaaWFoot
import Derived.Test.YtpeejdmbnlhjmaaWKept
import Derived.Test.YtpeejdmbnlhjmaaWShare
import Derived.Test.YtpeejdmbnlhjmaaWN
import Derived.Test.YtpeejdmbnlhjmaaWFootNe
import Derived.Test.YtpeejdmbnlhjmaaWAt
import Derived.Test.YtpeejdmbnlhjmaaWEqStruct
import Derived.Test.YtpeejdmbnlhjmaaWRepsOne
import Derived.Test.YtpeejdmbnlhjmaaWInv
import Derived.Test.YtpeejdmbnlhjmaaWInvWords
import Derived.Test.YtpeejdmbnlhjmaaWGuard
import Derived.Test.YtpeejdmbnlhjmaaWNEv
import Derived.Test.YtpeejdmbnlhjmaaWMore
import Derived.LoopN
import Derived.Outline
import Derived.Deep.WholeRow
import Derived.Test.YtpeejdmbnlhjmaaWwrit
import Derived.Test.YtpeejdmbnlhjmaaMpre
import Derived.Test.YtpeejdmbnlhjmaaSclone
namespace Go.Proofs.Ytpeejdmbnlhjmaa.H
open Go.RowKit Go.Proofs.YtpeejdmbnlhjmaaW.PrintWords Go.Proofs.YtpeejdmbnlhjmaaW.PrintLast Go.Proofs.YtpeejdmbnlhjmaaW.PrintMore
attribute [local go_sem] max2_int min2_int max_two min_two max_three min_three max_four min_four   -- for this text's walks alone
set_option linter.unusedVariables false
set_option linter.unusedSimpArgs false
def OthTo (w : World) (k : Int) (l : List Int) (e : Int) (en : Ending) (w' : World) : Prop := ∃ v, en = .returned (.tuple #[.agg #[.int .i64 (selI (decide (e = 0)) k 0), v], .int .i64 e]) ∧ Kd.R (Kd.int .u8) 5 w' w.heap.size (fun _ => True) v (selL (decide (e = 0)) l) ∧ Below w.heap.size w w'
theorem froz_keep {W W' : World} {a : Addr} {v : Value} (hc : W.cell? a = some v) (hb : Below W.heap.size W W') (h : W.frozen? a = false) : W'.frozen? a = false := by
  have hlt := World.block_lt_of_cell? W _ hc
  have e : W'.heap[a.block]? = W.heap[a.block]? := by
    rw [Array.getElem?_eq_getElem hlt]
    exact blk_below (Array.getElem?_eq_getElem hlt) hb
  unfold World.frozen? at h ⊢
  rw [e]
  exact h
set_option maxHeartbeats 8000000 in
set_option maxRecDepth 100000 in
theorem written_meta (w : World) (k : Int) (A : Option Addr) (l : List Int) (c : Nat) (e : Int) (r : Nat) (hr : Kd.C (Kd.int .u8) w A l.length l) (hc : l.length ≤ c) (hl : l.length ≤ 1000000000000) (ho : meta_odd.f r k l = some e) : Calls Try.prog 63 #[.iface 24 (.agg #[.int .i64 k, .slice A l.length c])] w (OthTo w k l e) := by
  have HR := Aside0.mk hr
  have HC := Aside0.mk hc
  have HO := Aside0.mk ho
  have HF := Aside0.mk (show bytes_Clone.f l = some l from if_pos hl)
  clear hr hc ho
  have t31 : ∀ v w, _ := fun v w => assert_no (P := Try.prog) (w := w) 24 31 20 v _ _ Try.underlying31 rfl (Try.zeroValue31 w) (by decide)
  have t42 : ∀ v w, _ := fun v w => assert_no (P := Try.prog) (w := w) 24 42 20 v _ _ Try.underlying42 rfl (Try.zeroValue42 w) (by decide)
  have t33 : ∀ v w, _ := fun v w => assert_no (P := Try.prog) (w := w) 24 33 20 v _ _ Try.underlying33 rfl (Try.zeroValue33 w) (by decide)
  have t36 : ∀ v w, _ := fun v w => assert_no (P := Try.prog) (w := w) 24 36 20 v _ _ Try.underlying36 rfl (Try.zeroValue36 w) (by decide)
  have t24 : ∀ v w, _ := fun v w => assert_yes (P := Try.prog) (w := w) 24 20 v _ Try.underlying24 rfl
  go_enter Try.func63, Try.ntmps63
  go_upto_region 27 with fail
  clear t31 t42 t33 t36 t24
  have B2 := Aside0.mk (below_alloc (below_alloc (Below.refl w.heap.size w) (.cells #[.int .i64 0, .slice none 0 0] 24)) (.cells #[.int .i64 0, .slice none 0 0] 24))
  have K2 := Aside0.mk (blk_alloc (blk_new w (.cells #[.int .i64 0, .slice none 0 0] 24)) (.cells #[.int .i64 0, .slice none 0 0] 24))
  have S1 : (w.alloc (.cells #[.int .i64 0, .slice none 0 0] 24)).heap.size = w.heap.size + 1 := Array.size_push ..
  have K4 := Aside0.mk (blk_new (w.alloc (.cells #[.int .i64 0, .slice none 0 0] 24)) (.cells #[.int .i64 0, .slice none 0 0] 24))
  rw [S1] at K4
  clear S1
  generalize (w.alloc (.cells #[.int .i64 0, .slice none 0 0] 24)).alloc (.cells #[.int .i64 0, .slice none 0 0] 24) = w2 at *
  go_upto_region 28 with fail
  have hw3 : ∃ w3, w3 = w2.alloc (.cells #[.int .i64 k, .slice A l.length c] 24) := ⟨_, rfl⟩
  obtain ⟨w3, hw3⟩ := hw3
  rw [← hw3]
  have B3 : Aside0 (Below w.heap.size w w3) := ⟨by rw [hw3]; exact below_alloc B2.out _⟩
  have J2 : Aside0 (w3.heap[w.heap.size]? = some (.cells #[.int .i64 0, .slice none 0 0] 24)) := ⟨by rw [hw3]; exact blk_alloc K2.out _⟩
  have J4 : Aside0 (w3.heap[w.heap.size + 1]? = some (.cells #[.int .i64 0, .slice none 0 0] 24)) := ⟨by rw [hw3]; exact blk_alloc K4.out _⟩
  have J9 : Aside0 (w3.heap[w2.heap.size]? = some (.cells #[.int .i64 k, .slice A l.length c] 24)) := ⟨by rw [hw3]; exact heap_alloc_last _ _⟩
  clear hw3 B2 K2 K4
  have x0 : w3.cell? ⟨w2.heap.size, 0, none⟩ = some (.int .i64 k) := (blk_cell J9.out 0).trans rfl
  have x1 : w3.cell? ⟨w2.heap.size, 1, none⟩ = some (.slice A l.length c) := (blk_cell J9.out 1).trans rfl
  go_upto_region 29 with (first | (go_at_call 60; (with_reducible refine (meta_odd.calls r k A c l e _ (Kd.C_below HR.out B3.out) HC.out HO.out).mono ?_); rintro e' w4 ⟨rfl, hb⟩; have B4 := Aside0.mk (below_step B3.out hb); have L2 := Aside0.mk (blk_below J2.out hb); have L4 := Aside0.mk (blk_below J4.out hb); have L9 := Aside0.mk (blk_below J9.out hb); have HZ4 := Aside0.mk (show w.heap.size + 1 < w4.heap.size from (Array.getElem?_eq_some_iff.1 (blk_below J4.out hb)).1); clear hb x0 x1 J2 J4 J9))
  by_cases he : e = 0
  · have g1 : (e != 0) = false := by rw [he]; rfl
    have HE := Aside0.mk he
    clear he
    go_upto_region 31 with fail
    have D2 := Aside0.mk (blk_drew L2.out)
    have D4 := Aside0.mk (blk_drew L4.out)
    have D9 := Aside0.mk (blk_drew L9.out)
    have ax0 : w4.cell? ⟨w2.heap.size, 0, none⟩ = some (.int .i64 k) := (blk_cell L9.out 0).trans rfl
    have ax1 : w4.cell? ⟨w2.heap.size, 1, none⟩ = some (.slice A l.length c) := (blk_cell L9.out 1).trans rfl
    have ay0 : w4.cell? ⟨w.heap.size + 1, 0, none⟩ = some (.int .i64 0) := (blk_cell L4.out 0).trans rfl
    have ay1 : w4.cell? ⟨w.heap.size + 1, 1, none⟩ = some (.slice none 0 0) := (blk_cell L4.out 1).trans rfl
    have af0 := blk_frozen L4.out 0
    have af1 := blk_frozen L4.out 1
    have bx0 : w4.drew.cell? ⟨w2.heap.size, 0, none⟩ = some (.int .i64 k) := (blk_cell D9.out 0).trans rfl
    have bx1 : w4.drew.cell? ⟨w2.heap.size, 1, none⟩ = some (.slice A l.length c) := (blk_cell D9.out 1).trans rfl
    have by0 : w4.drew.cell? ⟨w.heap.size + 1, 0, none⟩ = some (.int .i64 0) := (blk_cell D4.out 0).trans rfl
    have by1 : w4.drew.cell? ⟨w.heap.size + 1, 1, none⟩ = some (.slice none 0 0) := (blk_cell D4.out 1).trans rfl
    have bf0 := blk_frozen D4.out 0
    have bf1 := blk_frozen D4.out 1
    go_region_with ((with_reducible refine (bytes_Clone.calls A c l l _ (Kd.C_below HR.out (below_step B4.out (below_drew1 (Below.refl _ _)))) HC.out HF.out).mono ?_); rintro e' w5 ⟨v5, rfl, hr5, hb5⟩; obtain ⟨A5, c5, hv5⟩ := Kd.R_slice hr5; subst hv5; have M2 := Aside0.mk (blk_below D2.out hb5); have M4 := Aside0.mk (blk_below D4.out hb5); have M9 := Aside0.mk (blk_below D9.out hb5); have R5 := Aside0.mk hr5; have B5 := Aside0.mk (below_step (below_drew1 B4.out) hb5); clear hr5 hb5; have x0 : w5.cell? ⟨w2.heap.size, 0, none⟩ = some (.int .i64 k) := (blk_cell M9.out 0).trans rfl; have x1 : w5.cell? ⟨w2.heap.size, 1, none⟩ = some (.slice A l.length c) := (blk_cell M9.out 1).trans rfl; have y0 : w5.cell? ⟨w.heap.size + 1, 0, none⟩ = some (.int .i64 0) := (blk_cell M4.out 0).trans rfl; have y1 : w5.cell? ⟨w.heap.size + 1, 1, none⟩ = some (.slice none 0 0) := (blk_cell M4.out 1).trans rfl; have f0 := blk_frozen M4.out 0; have f1 := blk_frozen M4.out 1)
    all_goals
      have P4 := Aside0.mk (set24 M4.out k (.slice A5 l.length c5))
      have P2 := Aside0.mk (set24_far (g := w.heap.size + 1) M2.out (by omega) (.int .i64 k) (.slice A5 l.length c5))
      have R6 : Aside0 (Kd.R (Kd.int .u8) 5 ((w5.setCell ⟨w.heap.size + 1, 0, none⟩ (.int .i64 k)).setCell ⟨w.heap.size + 1, 1, none⟩ (.slice A5 l.length c5)) w.heap.size (fun k_ => k_ ≠ w.heap.size + 1 ∧ k_ ≠ w.heap.size) (.slice A5 l.length c5) l) := ⟨by
        have hr := R5.out
        have hz : w.heap.size + 1 < w4.drew.heap.size := HZ4.out
        have q : Kd.R (Kd.int .u8) 5 w5 w.heap.size (fun k_ => k_ ≠ w.heap.size + 1 ∧ k_ ≠ w.heap.size) (.slice A5 l.length c5) l := Kd.R_lower (Kd.R_mono (Kd.R_bound hr) (fun k_ hk_ => by have := hk_.2.1; omega)) (by omega)
        exact Kd.R_far (Kd.R_far q (fun k_ hk_ => hk_.1) _) (fun k_ hk_ => hk_.1) _⟩
      have B6 : Aside0 (Below w.heap.size w ((w5.setCell ⟨w.heap.size + 1, 0, none⟩ (.int .i64 k)).setCell ⟨w.heap.size + 1, 1, none⟩ (.slice A5 l.length c5))) := ⟨below_set (below_set B5.out (Nat.le_succ _)) (Nat.le_succ _)⟩
      generalize ((w5.setCell ⟨w.heap.size + 1, 0, none⟩ (.int .i64 k)).setCell ⟨w.heap.size + 1, 1, none⟩ (.slice A5 l.length c5)) = w6 at *
      clear ax0 ax1 ay0 ay1 af0 af1 bx0 bx1 by0 by1 bf0 bf1 x0 x1 y0 y1 f0 f1 M2 M4 M9 R5 B5 D2 D4 D9 L2 L4 L9
      have y0 : w6.cell? ⟨w.heap.size + 1, 0, none⟩ = some (.int .i64 k) := (blk_cell P4.out 0).trans rfl
      have y1 : w6.cell? ⟨w.heap.size + 1, 1, none⟩ = some (.slice A5 l.length c5) := (blk_cell P4.out 1).trans rfl
      have z0 : w6.cell? ⟨w.heap.size, 0, none⟩ = some (.int .i64 0) := (blk_cell P2.out 0).trans rfl
      have z1 : w6.cell? ⟨w.heap.size, 1, none⟩ = some (.slice none 0 0) := (blk_cell P2.out 1).trans rfl
      have f0 := blk_frozen P2.out 0
      have f1 := blk_frozen P2.out 1
      go_wp2_with fail
      refine bodyPost_ret (results_ct rfl _ _ w.heap.size 24 #[.int .i64 k, .slice A5 l.length c5] (0, 0) _ rfl (set24 P2.out k (.slice A5 l.length c5)) Try.underlying24 rfl (by kernel_rfl)) rfl ?_
      refine ⟨.slice A5 l.length c5, ?_, ?_, ?_⟩
      · rw [HE.out]; rfl
      · rw [HE.out]; exact Kd.R_mono (Kd.R_far (Kd.R_far R6.out (fun k_ hk_ => hk_.2) _) (fun k_ hk_ => hk_.2) _) (fun _ _ => trivial)
      · exact below_set (below_set B6.out (Nat.le_refl _)) (Nat.le_refl _)
  · have g1 : (e != 0) = true := bne_iff_ne.mpr he
    have HE := Aside0.mk (decide_eq_false he)
    clear he
    have z0 : w4.cell? ⟨w.heap.size, 0, none⟩ = some (.int .i64 0) := (blk_cell L2.out 0).trans rfl
    have z1 : w4.cell? ⟨w.heap.size, 1, none⟩ = some (.slice none 0 0) := (blk_cell L2.out 1).trans rfl
    have f0 := blk_frozen L2.out 0
    have f1 := blk_frozen L2.out 1
    go_wp2_with fail
    refine bodyPost_ret (results_ct rfl _ _ w.heap.size 24 #[.int .i64 0, .slice none 0 0] (0, 0) _ rfl (set24 L2.out 0 (.slice none 0 0)) Try.underlying24 rfl (by kernel_rfl)) rfl ?_
    refine ⟨.slice none 0 0, ?_, ?_, ?_⟩
    · rw [HE.out]; rfl
    · rw [HE.out]; exact Kd.R_nil _ _ _ _ _
    · exact below_set (below_set B4.out (Nat.le_refl _)) (Nat.le_refl _)
set_option maxHeartbeats 8000000 in
set_option maxRecDepth 100000 in
theorem fn_meta (w : World) (k : Int) (A : Option Addr) (l : List Int) (c : Nat) (e : Int) (r : Nat) (hr : Kd.C (Kd.int .u8) w A l.length l) (hc : l.length ≤ c) (hl : l.length ≤ 1000000000000) (ho : meta_odd.f r k l = some e) : Calls Try.prog 37 #[.agg #[.int .i64 k, .slice A l.length c]] w (OthTo w k l e) := by
  have B2 := Aside0.mk (show Below w.heap.size w ((w.alloc (.cells #[.int .i64 k, .slice A l.length c] 24)).alloc (.cells #[.int .i64 0, .slice none 0 0] 24)) from below_alloc (below_alloc (Below.refl w.heap.size w) _) _)
  have K1 := Aside0.mk (blk_alloc (blk_new w (.cells #[.int .i64 k, .slice A l.length c] 24)) (.cells #[.int .i64 0, .slice none 0 0] 24))
  have K2 := Aside0.mk (blk_new (w.alloc (.cells #[.int .i64 k, .slice A l.length c] 24)) (.cells #[.int .i64 0, .slice none 0 0] 24))
  have S1 : (w.alloc (.cells #[.int .i64 k, .slice A l.length c] 24)).heap.size = w.heap.size + 1 := Array.size_push ..
  rw [S1] at K2
  clear S1
  have HR := Aside0.mk hr
  have HC := Aside0.mk hc
  have HO := Aside0.mk ho
  clear hr hc ho
  go_enter Try.func37, Try.ntmps37
  go_upto_region 1 with fail
  generalize (w.alloc (.cells #[.int .i64 k, .slice A l.length c] 24)).alloc (.cells #[.int .i64 0, .slice none 0 0] 24) = w2 at *
  have HZ := Aside0.mk (show w.heap.size + 1 < w2.heap.size from (Array.getElem?_eq_some_iff.1 K2.out).1)
  have x0 : w2.cell? ⟨w.heap.size, 0, none⟩ = some (.int .i64 k) := (blk_cell K1.out 0).trans rfl
  have x1 : w2.cell? ⟨w.heap.size, 1, none⟩ = some (.slice A l.length c) := (blk_cell K1.out 1).trans rfl
  go_wp2_with (first | (go_at_call 63; (with_reducible refine (written_meta _ k A l c e r (Kd.C_below HR.out B2.out) HC.out hl HO.out).mono ?_); rintro e' w3 ⟨v5, rfl, hr, hb⟩; obtain ⟨A5, c5, hv5⟩ := Kd.R_slice hr; subst hv5; have R3 := Aside0.mk hr; have B3 := Aside0.mk (below_step B2.out hb); have P2 := Aside0.mk (blk_below K2.out hb); clear hb hr x0 x1; have z0 : w3.cell? ⟨w.heap.size + 1, 0, none⟩ = some (.int .i64 0) := (blk_cell P2.out 0).trans rfl; have z1 : w3.cell? ⟨w.heap.size + 1, 1, none⟩ = some (.slice none 0 0) := (blk_cell P2.out 1).trans rfl; have f0 := blk_frozen P2.out 0; have f1 := blk_frozen P2.out 1))
  refine bodyPost_ret (results_ct rfl _ _ (w.heap.size + 1) 24 #[.int .i64 (selI (decide (e = 0)) k 0), .slice A5 (selL (decide (e = 0)) l).length c5] (0, 0) _ rfl (set24 P2.out _ _) Try.underlying24 rfl (by kernel_rfl)) rfl ?_
  refine ⟨.slice A5 (selL (decide (e = 0)) l).length c5, rfl, ?_, ?_⟩
  · have q : Kd.R (Kd.int .u8) 5 w3 w.heap.size (fun k_ => k_ ≠ w.heap.size + 1) (.slice A5 (selL (decide (e = 0)) l).length c5) (selL (decide (e = 0)) l) := Kd.R_lower (Kd.R_mono (Kd.R_bound R3.out) (fun k_ hk_ => by have := hk_.2.1; have := HZ.out; omega)) (by have := HZ.out; omega)
    exact Kd.R_mono (Kd.R_far (Kd.R_far q (fun k_ hk_ => hk_) _) (fun k_ hk_ => hk_) _) (fun _ _ => trivial)
  · exact below_set (below_set B3.out (Nat.le_succ _)) (Nat.le_succ _)
end Go.Proofs.Ytpeejdmbnlhjmaa.H
