/- The chapter's comment read (meta.texts, meta.readComment), with the proofs of the calls. -/
import Derived.Test.YtpeejdmbnlhjmaaProg
import Derived.Below
import Derived.Deep.Draws
import Derived.Deep.AppendLies
import Derived.Maps.AppendAt
import Derived.OwnWalk
import Derived.Laws.BytesArg
import Derived.Laws.MakeOwn
import Derived.Laws.OwnMore
import Derived.Deep.OwnRows
import Derived.Tactics
import Derived.Lib.ConvBytes
import Derived.Laws.Slices
import Derived.WalkKit
import Derived.KernelRfl
import Derived.RowKit3
import Derived.Deep.LoopGhost
import Derived.Deep.QuietTactic
import Derived.BigQuiet
import Derived.WideLaws
import Derived.Deep.DeepCutAuto
import Derived.Deep.CutBlock
import Derived.Deep.RegionHeld3
import Derived.Laws.Rows
import Derived.Lib.AppendStr
import Derived.ArgAppend
import Derived.Laws.IdiomCopy
import Derived.OrdersHeld
import Derived.Laws.BitsLemmas
import Derived.RowKit
import Derived.Test.YtpeejdmbnlhjmaaWWords
import Derived.Test.YtpeejdmbnlhjmaaWLast
import Derived.Test.YtpeejdmbnlhjmaaWTab
import Derived.Test.YtpeejdmbnlhjmaaWFour
import Derived.Test.YtpeejdmbnlhjmaaWQPut
import Derived.Test.YtpeejdmbnlhjmaaWApart
import Derived.Test.YtpeejdmbnlhjmaaWArr
import Derived.Test.YtpeejdmbnlhjmaaWZeros
import Derived.Test.YtpeejdmbnlhjmaaWFoot
import Derived.Test.YtpeejdmbnlhjmaaWKept
import Derived.Test.YtpeejdmbnlhjmaaWShare
import Derived.Test.YtpeejdmbnlhjmaaWN
import Derived.Test.YtpeejdmbnlhjmaaWFootNe
import Derived.Test.YtpeejdmbnlhjmaaWAt
import Derived.Test.YtpeejdmbnlhjmaaWEqStruct
import Derived.Test.YtpeejdmbnlhjmaaWRepsOne
import Derived.Test.YtpeejdmbnlhjmaaWInv
import Derived.Test.YtpeejdmbnlhjmaaWInvWords
import Derived.Test.YtpeejdmbnlhjmaaWGuard
import Derived.Test.YtpeejdmbnlhjmaaWNEv
import Derived.Test.YtpeejdmbnlhjmaaWMore
import Derived.LoopN
import Derived.Outline
import Derived.Deep.WholeRow
import Derived.Test.YtpeejdmbnlhjmaaMwrit
import Derived.Deep.RegionLaw
import Derived.Deep.RegionWith
/- The chapter's comment read (meta.texts, meta.readComment), with the proofs of the calls. -/
namespace Go.Proofs.Ytpeejdmbnlhjmaa.H
open Go.RowKit Go.Proofs.YtpeejdmbnlhjmaaW.PrintWords Go.Proofs.YtpeejdmbnlhjmaaW.PrintLast Go.Proofs.YtpeejdmbnlhjmaaW.PrintMore
attribute [local go_sem] max2_int min2_int max_two min_two max_three min_three max_four min_four   -- for this text's walks alone
set_option linter.unusedVariables false
set_option linter.unusedSimpArgs false
def SizeTo (w w2 : World) (n : Int) (e : Ending) (w' : World) : Prop := e = .returned (.int .i64 n) ∧ w' = w2
/-- A reader of texts, at a place of a row. -/
def TSt (W : World) (T bk k m c : Nat) : Prop := W.heap[T]? = some (.cells #[.slice (some ⟨bk, k, none⟩) m c, .int .i64 0] 207 (0, 0))
set_option maxHeartbeats 8000000 in
set_option maxRecDepth 100000 in
theorem size_calls (T bk k m c : Nat) (n : Int) (hn : n = 1 ∨ n = 2 ∨ n = 3) (w : World) (h : TSt w T bk k m c) (hm : 4 ≤ m) (hc : m ≤ c) (hc4 : 4 < c)
    (x0 : w.cell? ⟨bk, k, none⟩ = some (.int .u8 n)) (x1 : w.cell? ⟨bk, k + 1, none⟩ = some (.int .u8 0)) (x2 : w.cell? ⟨bk, k + 2, none⟩ = some (.int .u8 0)) (x3 : w.cell? ⟨bk, k + 3, none⟩ = some (.int .u8 0)) :
    Calls Try.prog 155 #[.pointer (some ⟨T, 0, none⟩)] w (SizeTo w (w.setCell ⟨T, 0, none⟩ (.slice (some ⟨bk, k + 4, none⟩) (m - 4) (c - 4))) n) := by
  have y0 : w.cell? ⟨T, 0, none⟩ = some (.slice (some ⟨bk, k, none⟩) m c) := (blk_cell h 0).trans rfl
  have y1 : w.cell? ⟨T, 1, none⟩ = some (.int .i64 0) := (blk_cell h 1).trans rfl
  have f0 := blk_frozen h 0
  have d1 : decide ((m : Int) < 4) = false := decide_eq_false (by omega)
  have d2 : decide (m < 4) = false := decide_eq_false (by omega)
  have d3 : (4 : Int) ≤ (m : Int) := by omega
  have d4 : (4 : Int) ≤ (c : Int) := by omega
  have d5 : (m : Int) ≤ (c : Int) := by omega
  have H := Aside0.mk h
  clear h
  rcases hn with rfl | rfl | rfl
  all_goals
    go_enter Try.func155, Try.ntmps155
    go_wp2
    refine wp_loop_rounds 5 ?_
    rw [rounds_succ]
    go_wp2
    rw [rounds_succ]
    go_wp2
    rw [rounds_succ]
    go_wp2
    rw [rounds_succ]
    go_wp2
    rw [rounds_succ]
    go_wp2
    go_ret
    exact ⟨rfl, rfl⟩
def TextTo (w2 : World) (s : ByteArray) (e : Ending) (w' : World) : Prop := e = .returned (.string s) ∧ w' = w2
set_option maxHeartbeats 8000000 in
set_option maxRecDepth 100000 in
theorem text_in (T bk k m c : Nat) (n : Nat) (s : ByteArray) (hn : n = 1 ∨ n = 2 ∨ n = 3) (w : World) (h : TSt w T bk k m c) (hT : T ≠ bk) (hm : n + 4 ≤ m) (hc : m ≤ c) (hc4 : n + 4 < c)
    (x0 : w.cell? ⟨bk, k, none⟩ = some (.int .u8 (n : Int))) (x1 : w.cell? ⟨bk, k + 1, none⟩ = some (.int .u8 0)) (x2 : w.cell? ⟨bk, k + 2, none⟩ = some (.int .u8 0)) (x3 : w.cell? ⟨bk, k + 3, none⟩ = some (.int .u8 0))
    (hcv : ∀ W : World, W = w.setCell ⟨T, 0, none⟩ (.slice (some ⟨bk, k + 4, none⟩) (m - 4) (c - 4)) → (convert 22 9 (.slice (some ⟨bk, k + 4, none⟩) n (c - 4))).run Try.prog W = .ok (.string s) W) :
    Calls Try.prog 154 #[.pointer (some ⟨T, 0, none⟩)] w (TextTo ((w.setCell ⟨T, 0, none⟩ (.slice (some ⟨bk, k + 4, none⟩) (m - 4) (c - 4))).setCell ⟨T, 0, none⟩ (.slice (some ⟨bk, k + 4 + n, none⟩) (m - 4 - n) (c - 4 - n))) s) := by
  have HS := Aside0.mk (size_calls T bk k m c (n : Int) (by omega) w h (by omega) hc (by omega) x0 x1 x2 x3)
  have K := Aside0.mk ((blk_set h 0 (.slice (some ⟨bk, k + 4, none⟩) (m - 4) (c - 4))).trans (by rfl : _ = some (Obj.cells #[.slice (some ⟨bk, k + 4, none⟩) (m - 4) (c - 4), .int .i64 0] 207 (0, 0))))
  obtain ⟨w2, hw2⟩ : ∃ w2, w2 = w.setCell ⟨T, 0, none⟩ (.slice (some ⟨bk, k + 4, none⟩) (m - 4) (c - 4)) := ⟨_, rfl⟩
  have hv := hcv w2 hw2
  rw [← hw2] at HS K ⊢
  clear hcv hw2 h x0 x1 x2 x3
  have y0 : w2.cell? ⟨T, 0, none⟩ = some (.slice (some ⟨bk, k + 4, none⟩) (m - 4) (c - 4)) := (blk_cell K.out 0).trans rfl
  have y1 : w2.cell? ⟨T, 1, none⟩ = some (.int .i64 0) := (blk_cell K.out 1).trans rfl
  have f0 := blk_frozen K.out 0
  generalize hm4 : m - 4 = m4 at *
  generalize hc4' : c - 4 = c4 at *
  have d1 : decide ((m4 : Int) < (n : Int)) = false := decide_eq_false (by omega)
  have d2 : decide (m4 < n) = false := decide_eq_false (by omega)
  have d3 : (0 : Int) ≤ (n : Int) := by omega
  have d4 : (n : Int) ≤ (c4 : Int) := by omega
  have d5 : (n : Int) ≤ (m4 : Int) := by omega
  have d6 : (m4 : Int) ≤ (c4 : Int) := by omega
  go_enter Try.func154, Try.ntmps154
  go_wp2_with (first | (go_at_call 155; (with_reducible refine (HS.out).mono ?_); rintro e w3 ⟨rfl, rfl⟩))
  go_ret
  exact ⟨rfl, rfl⟩
def TextEnd (w2 : World) (T : Nat) (s : ByteArray) (e : Ending) (w' : World) : Prop := ∃ A c, e = .returned (.string s) ∧ w' = w2.setCell ⟨T, 0, none⟩ (.slice A 0 c)
set_option maxHeartbeats 8000000 in
set_option maxRecDepth 100000 in
theorem text_end (T bk k c : Nat) (s : ByteArray) (w : World) (h : TSt w T bk k 7 c) (hT : T ≠ bk) (hc : 7 ≤ c)
    (x0 : w.cell? ⟨bk, k, none⟩ = some (.int .u8 3)) (x1 : w.cell? ⟨bk, k + 1, none⟩ = some (.int .u8 0)) (x2 : w.cell? ⟨bk, k + 2, none⟩ = some (.int .u8 0)) (x3 : w.cell? ⟨bk, k + 3, none⟩ = some (.int .u8 0))
    (hcv : ∀ W : World, W = w.setCell ⟨T, 0, none⟩ (.slice (some ⟨bk, k + 4, none⟩) 3 (c - 4)) → (convert 22 9 (.slice (some ⟨bk, k + 4, none⟩) 3 (c - 4))).run Try.prog W = .ok (.string s) W) :
    Calls Try.prog 154 #[.pointer (some ⟨T, 0, none⟩)] w (TextEnd (w.setCell ⟨T, 0, none⟩ (.slice (some ⟨bk, k + 4, none⟩) 3 (c - 4))) T s) := by
  have HS := Aside0.mk (size_calls T bk k 7 c 3 (by omega) w h (by omega) hc (by omega) x0 x1 x2 x3)
  have K := Aside0.mk ((blk_set h 0 (.slice (some ⟨bk, k + 4, none⟩) 3 (c - 4))).trans (by rfl : _ = some (Obj.cells #[.slice (some ⟨bk, k + 4, none⟩) 3 (c - 4), .int .i64 0] 207 (0, 0))))
  obtain ⟨w2, hw2⟩ : ∃ w2, w2 = w.setCell ⟨T, 0, none⟩ (.slice (some ⟨bk, k + 4, none⟩) 3 (c - 4)) := ⟨_, rfl⟩
  have hv := hcv w2 hw2
  rw [show 7 - 4 = 3 from rfl] at HS
  rw [← hw2] at HS K ⊢
  clear hcv hw2 h x0 x1 x2 x3
  have y0 : w2.cell? ⟨T, 0, none⟩ = some (.slice (some ⟨bk, k + 4, none⟩) 3 (c - 4)) := (blk_cell K.out 0).trans rfl
  have y1 : w2.cell? ⟨T, 1, none⟩ = some (.int .i64 0) := (blk_cell K.out 1).trans rfl
  have f0 := blk_frozen K.out 0
  generalize hc4' : c - 4 = c4 at *
  have d4 : (3 : Int) ≤ (c4 : Int) := by omega
  have d5 : 3 ≤ c4 := by omega
  by_cases c3 : c4 = 3
  · subst c3
    go_enter Try.func154, Try.ntmps154
    go_wp2_with (first | (go_at_call 155; (with_reducible refine (HS.out).mono ?_); rintro e w3 ⟨rfl, rfl⟩))
    go_ret
    exact ⟨_, _, rfl, rfl⟩
  · have d6 : 3 < c4 := by omega
    go_enter Try.func154, Try.ntmps154
    go_wp2_with (first | (go_at_call 155; (with_reducible refine (HS.out).mono ?_); rintro e w3 ⟨rfl, rfl⟩))
    go_ret
    exact ⟨_, _, rfl, rfl⟩
end Go.Proofs.Ytpeejdmbnlhjmaa.H
/- The chapter's comment read back (meta.readComment), with the proof of the call. -/
namespace Go.Proofs.Ytpeejdmbnlhjmaa.H
open Go.RowKit Go.Proofs.YtpeejdmbnlhjmaaW.PrintWords Go.Proofs.YtpeejdmbnlhjmaaW.PrintLast Go.Proofs.YtpeejdmbnlhjmaaW.PrintMore
attribute [local go_sem] max2_int min2_int max_two min_two max_three min_three max_four min_four   -- for this text's walks alone
set_option linter.unusedVariables false
set_option linter.unusedSimpArgs false
def ReadTo (w : World) (e : Ending) (w' : World) : Prop := ∃ g c, e = .returned (.tuple #[.iface 36 (aggAb g c), .int .i64 0]) ∧ FBl w' g ∧ Below w.heap.size w w'
/-- The bytes of the chapter's comment at a place. -/
def LCells (W : World) (bk : Nat) : Prop := ∀ i (h : i < 17), W.cell? ⟨bk, i, none⟩ = some (.int .u8 (l17[i]'h))
theorem lc_of_C {W : World} {bk : Nat} (h : Kd.C (Kd.int .u8) W (some ⟨bk, 0, none⟩) 17 l17) : LCells W bk := by
  intro i hi
  obtain ⟨ad, e1, hx⟩ := Kd.at_int h (i : Int) (by omega) (by omega)
  cases e1
  rw [Int.toNat_natCast] at hx
  have e2 : rd l17 (i : Int) = l17[i]'hi := by
    unfold rd
    rw [Int.toNat_natCast, List.getD_eq_getElem?_getD, List.getElem?_eq_getElem hi]
    rfl
  rw [e2, Addr.add_lit, Nat.zero_add] at hx
  exact hx
theorem lc_me {W : World} {bk c : Nat} (h : LCells W bk) : (convert 22 9 (.slice (some ⟨bk, 4, none⟩) 2 c)).run Try.prog W = .ok (.string sMe) W := by
  refine string_of_reads (xs := [109, 101]) Try.underlying22 Try.underlying5 Try.underlying9 ⟨rfl, by decide, fun _ => ⟨_, rfl, fun j hj => ?_⟩⟩
  rw [Addr.add_lit]
  match j, hj with
  | 0, _ => exact h 4 (by decide)
  | 1, _ => exact h 5 (by decide)
theorem lc_ab {W : World} {bk c : Nat} (h : LCells W bk) : (convert 22 9 (.slice (some ⟨bk, 14, none⟩) 3 c)).run Try.prog W = .ok (.string sAb) W := by
  refine string_of_reads (xs := [65, 61, 98]) Try.underlying22 Try.underlying5 Try.underlying9 ⟨rfl, by decide, fun _ => ⟨_, rfl, fun j hj => ?_⟩⟩
  rw [Addr.add_lit]
  match j, hj with
  | 0, _ => exact h 14 (by decide)
  | 1, _ => exact h 15 (by decide)
  | 2, _ => exact h 16 (by decide)
theorem lc_far {W : World} {bk T : Nat} (h : LCells W bk) (hT : T ≠ bk) (i : Nat) (u : Value) : LCells (W.setCell ⟨T, i, none⟩ u) bk := by
  intro j hj
  have hx := h j hj
  refine Eq.trans ?_ hx
  have := Below.heap_setCell W ⟨T, i, none⟩ u bk (fun e => hT e.symm)
  unfold World.cell?
  rw [this]
theorem lc_below {W W' : World} {bk : Nat} (h : LCells W bk) (hb : Below W.heap.size W W') : LCells W' bk := fun i hi => cell_below hb (h i hi)
theorem lc_lt {W : World} {bk : Nat} (h : LCells W bk) : bk < W.heap.size := World.block_lt_of_cell? W _ (h 0 (by decide))
theorem infoStr : (Try.prog.info? 9).map (fun i => (i.zero, i.size, i.bytes)) = some (some (.string ⟨#[]⟩), 1, 16) := by kernel_rfl
theorem sv {W : World} {V : Nat} (h : W.heap[V]? = some (.cells #[.string sMe, .slice none 0 0] 36 (0, 0))) : W.heap[V]? = some (.cells #[.string sMe, .slice none 0 0] 36 (0, 0)) ∧ W.cell? ⟨V, 1, none⟩ = some (.slice none 0 0) ∧ W.frozen? ⟨V, 1, none⟩ = false :=
  ⟨h, (blk_cell h 1).trans rfl, blk_frozen h 1⟩
theorem fields_at (W : World) (V cap : Nat) : FBl (((W.setCell ⟨V, 1, none⟩ (.slice (some ⟨W.heap.size + 1, 0, none⟩) 1 cap)).alloc (.cells #[.string sAb] 9)).alloc (.cells (#[.string sAb] ++ Builtin.zeroCells #[.string ⟨#[]⟩] (cap - 1)) 9)).drew (W.heap.size + 1) := by
  have e : ((W.setCell ⟨V, 1, none⟩ (.slice (some ⟨W.heap.size + 1, 0, none⟩) 1 cap)).alloc (.cells #[.string sAb] 9)).heap.size = W.heap.size + 1 := by
    have := size_set W ⟨V, 1, none⟩ (.slice (some ⟨W.heap.size + 1, 0, none⟩) 1 cap)
    rw [show ((W.setCell ⟨V, 1, none⟩ (.slice (some ⟨W.heap.size + 1, 0, none⟩) 1 cap)).alloc (.cells #[.string sAb] 9)).heap.size = (W.setCell ⟨V, 1, none⟩ (.slice (some ⟨W.heap.size + 1, 0, none⟩) 1 cap)).heap.size + 1 from Array.size_push .., this]
  have hb := blk_new ((W.setCell ⟨V, 1, none⟩ (.slice (some ⟨W.heap.size + 1, 0, none⟩) 1 cap)).alloc (.cells #[.string sAb] 9)) (.cells (#[.string sAb] ++ Builtin.zeroCells #[.string ⟨#[]⟩] (cap - 1)) 9)
  rw [e] at hb
  exact (blk_cell (blk_drew hb) 0).trans (by rw [Array.getElem?_append_left (by decide)]; rfl)
set_option maxHeartbeats 8000000 in
set_option maxRecDepth 100000 in
theorem readc_calls (w : World) (bk c : Nat) (hC : LCells w bk) (hc : 17 ≤ c) : Calls Try.prog 110 #[.slice (some ⟨bk, 0, none⟩) 17 c] w (ReadTo w) := by
  have L1 := Aside0.mk (lc_below hC (below_alloc (Below.refl _ _) (.cells #[.slice (some ⟨bk, 0, none⟩) 17 c, .int .i64 0] 207)))
  have B1 := Aside0.mk (below_alloc (Below.refl w.heap.size w) (.cells #[.slice (some ⟨bk, 0, none⟩) 17 c, .int .i64 0] 207))
  have K1 := Aside0.mk (show TSt _ w.heap.size bk 0 17 c from blk_new w (.cells #[.slice (some ⟨bk, 0, none⟩) 17 c, .int .i64 0] 207))
  have HT := Aside0.mk (show w.heap.size ≠ bk by have := lc_lt hC; omega)
  clear hC
  go_enter Try.func110, Try.ntmps110
  go_upto_region 2 with fail
  generalize w.alloc (.cells #[.slice (some ⟨bk, 0, none⟩) 17 c, .int .i64 0] 207) = w1 at *
  have HX := Aside0.mk (text_in w.heap.size bk 0 17 c 2 sMe (by decide) w1 K1.out HT.out (by decide) hc (by omega) (L1.out 0 (by decide)) (L1.out 1 (by decide)) (L1.out 2 (by decide)) (L1.out 3 (by decide)) (fun W hW => lc_me (by rw [hW]; exact lc_far L1.out HT.out _ _)))
  have K2 := Aside0.mk ((blk_set (blk_set K1.out 0 (.slice (some ⟨bk, 0 + 4, none⟩) (17 - 4) (c - 4))) 0 (.slice (some ⟨bk, 0 + 4 + 2, none⟩) (17 - 4 - 2) (c - 4 - 2))).trans (by rfl : _ = some (Obj.cells #[.slice (some ⟨bk, 6, none⟩) 11 (c - 4 - 2), .int .i64 0] 207 (0, 0))))
  have L2 := Aside0.mk (lc_far (lc_far L1.out HT.out 0 (.slice (some ⟨bk, 0 + 4, none⟩) (17 - 4) (c - 4))) HT.out 0 (.slice (some ⟨bk, 0 + 4 + 2, none⟩) (17 - 4 - 2) (c - 4 - 2)))
  have B2 : Aside0 (Below w.heap.size w ((w1.setCell ⟨w.heap.size, 0, none⟩ (.slice (some ⟨bk, 0 + 4, none⟩) (17 - 4) (c - 4))).setCell ⟨w.heap.size, 0, none⟩ (.slice (some ⟨bk, 0 + 4 + 2, none⟩) (17 - 4 - 2) (c - 4 - 2)))) := ⟨below_set (below_set B1.out (Nat.le_refl _)) (Nat.le_refl _)⟩
  generalize (w1.setCell ⟨w.heap.size, 0, none⟩ (.slice (some ⟨bk, 0 + 4, none⟩) (17 - 4) (c - 4))).setCell ⟨w.heap.size, 0, none⟩ (.slice (some ⟨bk, 0 + 4 + 2, none⟩) (17 - 4 - 2) (c - 4 - 2)) = w2 at *
  clear K1 L1 B1
  go_upto_region 3 with (first | (go_at_call 154; (with_reducible refine (HX.out).mono ?_); rintro e w3 ⟨rfl, rfl⟩))
  have HV := Aside0.mk (show w.heap.size < w3.heap.size from (Array.getElem?_eq_some_iff.1 K2.out).1)
  have HB := Aside0.mk (lc_lt L2.out)
  have J4 := Aside0.mk (blk_new w3 (.cells #[.string sMe, .slice none 0 0] 36))
  have K4 := Aside0.mk (show TSt _ w.heap.size bk 6 11 (c - 4 - 2) from blk_alloc K2.out (.cells #[.string sMe, .slice none 0 0] 36))
  have L4 := Aside0.mk (lc_below L2.out (below_alloc (Below.refl _ _) (.cells #[.string sMe, .slice none 0 0] 36)))
  have B4 := Aside0.mk (below_alloc B2.out (.cells #[.string sMe, .slice none 0 0] 36))
  generalize w3.alloc (.cells #[.string sMe, .slice none 0 0] 36) = w4 at *
  generalize w3.heap.size = V at *
  clear K2 L2 B2 HX
  have HX := Aside0.mk (size_calls w.heap.size bk 6 11 (c - 4 - 2) 1 (by decide) w4 K4.out (by decide) (by omega) (by omega) (L4.out 6 (by decide)) (L4.out 7 (by decide)) (L4.out 8 (by decide)) (L4.out 9 (by decide)))
  have K5 := Aside0.mk (show TSt _ w.heap.size bk 10 7 (c - 4 - 2 - 4) from (blk_set K4.out 0 (.slice (some ⟨bk, 6 + 4, none⟩) (11 - 4) (c - 4 - 2 - 4))).trans (by rfl))
  have L5 := Aside0.mk (lc_far L4.out HT.out 0 (.slice (some ⟨bk, 6 + 4, none⟩) (11 - 4) (c - 4 - 2 - 4)))
  have J5 := Aside0.mk ((Below.heap_setCell w4 ⟨w.heap.size, 0, none⟩ (.slice (some ⟨bk, 6 + 4, none⟩) (11 - 4) (c - 4 - 2 - 4)) V (by have := HV.out; show V ≠ w.heap.size; omega)).trans J4.out)
  have B5 : Aside0 (Below w.heap.size w (w4.setCell ⟨w.heap.size, 0, none⟩ (.slice (some ⟨bk, 6 + 4, none⟩) (11 - 4) (c - 4 - 2 - 4)))) := ⟨below_set B4.out (Nat.le_refl _)⟩
  generalize w4.setCell ⟨w.heap.size, 0, none⟩ (.slice (some ⟨bk, 6 + 4, none⟩) (11 - 4) (c - 4 - 2 - 4)) = w5 at *
  clear K4 L4 B4 J4
  go_upto_block 0 with (first | (go_at_call 155; (with_reducible refine (HX.out).mono ?_); rintro e w6 ⟨rfl, rfl⟩))
  go_wp2_with fail
  refine wp_loop_rounds 2 ?_
  rw [rounds_succ]
  have y1 : w6.cell? ⟨w.heap.size, 1, none⟩ = some (.int .i64 0) := (blk_cell K5.out 1).trans rfl
  go_upto_region 6 with fail
  clear y1 HX
  have HX := Aside0.mk (text_end w.heap.size bk 10 (c - 4 - 2 - 4) sAb w6.drew (blk_drew K5.out) HT.out (by omega) (L5.out 10 (by decide)) (L5.out 11 (by decide)) (L5.out 12 (by decide)) (L5.out 13 (by decide)) (fun W hW => lc_ab (by rw [hW]; exact lc_far (W := w6.drew) L5.out HT.out _ _)))
  have j5 := J5.out
  have hVT : V ≠ w.heap.size := by have := HV.out; omega
  have HVT := Aside0.mk hVT
  clear hVT
  have c6 : w6.drew.cell? ⟨V, 1, none⟩ = some (.slice none 0 0) := (sv J5.out).2.1
  have c6' : w6.cell? ⟨V, 1, none⟩ = some (.slice none 0 0) := (sv J5.out).2.1
  have hcap : ¬ (281474976710656 < Builtin.nextslicecap 1 0 * Try.t9.bytes) := by decide
  go_region_with ((with_reducible refine (HX.out).mono ?_); rintro e w7 ⟨A7, c7, rfl, hw7⟩; have J7 : w7.heap[V]? = some (.cells #[.string sMe, .slice none 0 0] 36 (0, 0)) := (by rw [hw7]; exact (Below.heap_setCell _ ⟨w.heap.size, 0, none⟩ _ V HVT.out).trans ((Below.heap_setCell _ ⟨w.heap.size, 0, none⟩ _ V HVT.out).trans (blk_drew J5.out))); have K7 : Aside0 (w7.heap[w.heap.size]? = some (.cells #[.slice A7 0 c7, .int .i64 0] 207 (0, 0))) := ⟨by rw [hw7]; exact (blk_set (blk_set (blk_drew K5.out) 0 _) 0 _).trans (by rfl)⟩; have B7 : Aside0 (Below w.heap.size w w7) := ⟨by rw [hw7]; exact below_set (below_set (below_drew1 B5.out) (Nat.le_refl _)) (Nat.le_refl _)⟩; clear hw7; have c7' := (sv J7).2.1; have z7' := (sv J7).2.2; have hlt7 := (Array.getElem?_eq_some_iff.1 J7).1; have ne1 : V ≠ w7.heap.size := (by omega); have ne2 : V ≠ w7.heap.size + 1 := (by omega))
  all_goals
    generalize (Question.appendCap 1 0 9).cut (w7.tape w7.drawn (Question.appendCap 1 0 9)) = cap at *
    have F8 := Aside0.mk (fields_at w7 V cap)
    have K8 := Aside0.mk (blk_drew (blk_alloc (blk_alloc ((Below.heap_setCell w7 ⟨V, 1, none⟩ (.slice (some ⟨w7.heap.size + 1, 0, none⟩) 1 cap) w.heap.size (fun e => HVT.out e.symm)).trans K7.out) (.cells #[.string sAb] 9)) (.cells (#[.string sAb] ++ Builtin.zeroCells #[.string ⟨#[]⟩] (cap - 1)) 9)))
    have J8 := Aside0.mk (blk_drew (blk_alloc (blk_alloc ((blk_set J7 1 (.slice (some ⟨w7.heap.size + 1, 0, none⟩) 1 cap)).trans (by rfl : _ = some (Obj.cells #[.string sMe, .slice (some ⟨w7.heap.size + 1, 0, none⟩) 1 cap] 36 (0, 0)))) (.cells #[.string sAb] 9)) (.cells (#[.string sAb] ++ Builtin.zeroCells #[.string ⟨#[]⟩] (cap - 1)) 9)))
    have B8 : Aside0 (Below w.heap.size w (((w7.setCell ⟨V, 1, none⟩ (.slice (some ⟨w7.heap.size + 1, 0, none⟩) 1 cap)).alloc (.cells #[.string sAb] 9)).alloc (.cells (#[.string sAb] ++ Builtin.zeroCells #[.string ⟨#[]⟩] (cap - 1)) 9)).drew) := ⟨below_drew1 (below_alloc (below_alloc (below_set B7.out (Nat.le_of_lt HV.out)) _) _)⟩
    generalize (((w7.setCell ⟨V, 1, none⟩ (.slice (some ⟨w7.heap.size + 1, 0, none⟩) 1 cap)).alloc (.cells #[.string sAb] 9)).alloc (.cells (#[.string sAb] ++ Builtin.zeroCells #[.string ⟨#[]⟩] (cap - 1)) 9)).drew = w8 at *
    generalize w7.heap.size + 1 = g8 at *
    clear c6 c6' c7' z7' J7 K7 B7 hlt7 ne1 ne2 hcap j5
    have x0 : w8.cell? ⟨V, 0, none⟩ = some (.string sMe) := (blk_cell J8.out 0).trans rfl
    have x1 : w8.cell? ⟨V, 1, none⟩ = some (.slice (some ⟨g8, 0, none⟩) 1 cap) := (blk_cell J8.out 1).trans rfl
    have z0 : w8.cell? ⟨w.heap.size, 0, none⟩ = some (.slice A7 0 c7) := (blk_cell K8.out 0).trans rfl
    have z1 : w8.cell? ⟨w.heap.size, 1, none⟩ = some (.int .i64 0) := (blk_cell K8.out 1).trans rfl
    go_wp2_with fail
    rw [rounds_succ]
    go_wp2_with fail
    go_region
    go_wp2_with fail
    refine bodyPost_ret (results_tmp2 rfl _ _ _) rfl ?_
    exact ⟨g8, cap, rfl, F8.out, below_drew1 B8.out⟩
end Go.Proofs.Ytpeejdmbnlhjmaa.H
