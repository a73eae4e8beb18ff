/- The chapter's comment read (meta.texts, meta.readComment), with the proofs of the calls. -/
import Derived.Test.YtpeejdmbnlhjmaaProg
import Derived.Below
import Derived.Deep.Draws
import Derived.Deep.AppendLies
import Derived.Maps.AppendAt
import Derived.OwnWalk
import Derived.Laws.BytesArg
import Derived.Laws.MakeOwn
import Derived.Laws.OwnMore
import Derived.Deep.OwnRows
import Derived.Tactics
import Derived.Lib.ConvBytes
import Derived.Laws.Slices
import Derived.WalkKit
import Derived.KernelRfl
import Derived.RowKit3
import Derived.Deep.LoopGhost
import Derived.Deep.QuietTactic
import Derived.BigQuiet
import Derived.WideLaws
import Derived.Deep.DeepCutAuto
import Derived.Deep.CutBlock
import Derived.Deep.RegionHeld3
import Derived.Laws.Rows
import Derived.Lib.AppendStr
import Derived.ArgAppend
import Derived.Laws.IdiomCopy
import Derived.OrdersHeld
import Derived.Laws.BitsLemmas
import Derived.RowKit
import Derived.Test.YtpeejdmbnlhjmaaWWords
import Derived.Test.YtpeejdmbnlhjmaaWLast
import Derived.Test.YtpeejdmbnlhjmaaWTab
import Derived.Test.YtpeejdmbnlhjmaaWFour
import Derived.Test.YtpeejdmbnlhjmaaWQPut
import Derived.Test.YtpeejdmbnlhjmaaWApart
import Derived.Test.YtpeejdmbnlhjmaaWArr
import Derived.Test.YtpeejdmbnlhjmaaWZeros
import Derived.Test.YtpeejdmbnlhjmaaWFoot
import Derived.Test.YtpeejdmbnlhjmaaWKept
import Derived.Test.YtpeejdmbnlhjmaaWShare
import Derived.Test.YtpeejdmbnlhjmaaWN
import Derived.Test.YtpeejdmbnlhjmaaWFootNe
import Derived.Test.YtpeejdmbnlhjmaaWAt
import Derived.Test.YtpeejdmbnlhjmaaWEqStruct
import Derived.Test.YtpeejdmbnlhjmaaWRepsOne
import Derived.Test.YtpeejdmbnlhjmaaWInv
import Derived.Test.YtpeejdmbnlhjmaaWInvWords
import Derived.Test.YtpeejdmbnlhjmaaWGuard
import Derived.Test.YtpeejdmbnlhjmaaWNEv
import Derived.Test.YtpeejdmbnlhjmaaWMore
import Derived.LoopN
import Derived.Outline
import Derived.Deep.WholeRow
import Derived.Test.YtpeejdmbnlhjmaaMwrit
namespace Go.Proofs.Ytpeejdmbnlhjmaa.H
open Go.RowKit Go.Proofs.YtpeejdmbnlhjmaaW.PrintWords Go.Proofs.YtpeejdmbnlhjmaaW.PrintLast Go.Proofs.YtpeejdmbnlhjmaaW.PrintMore
attribute [local go_sem] max2_int min2_int max_two min_two max_three min_three max_four min_four   -- for this text's walks alone
set_option linter.unusedVariables false
set_option linter.unusedSimpArgs false
def SizeTo (w w2 : World) (n : Int) (e : Ending) (w' : World) : Prop := e = .returned (.int .i64 n) ∧ w' = w2
/-- A reader of texts, at a place of a row. -/
def TSt (W : World) (T bk k m c : Nat) : Prop := W.heap[T]? = some (.cells #[.slice (some ⟨bk, k, none⟩) m c, .int .i64 0] 207 (0, 0))
set_option maxHeartbeats 8000000 in
set_option maxRecDepth 100000 in
theorem size_calls (T bk k m c : Nat) (n : Int) (hn : n = 1 ∨ n = 2 ∨ n = 3) (w : World) (h : TSt w T bk k m c) (hm : 4 ≤ m) (hc : m ≤ c) (hc4 : 4 < c)
    (x0 : w.cell? ⟨bk, k, none⟩ = some (.int .u8 n)) (x1 : w.cell? ⟨bk, k + 1, none⟩ = some (.int .u8 0)) (x2 : w.cell? ⟨bk, k + 2, none⟩ = some (.int .u8 0)) (x3 : w.cell? ⟨bk, k + 3, none⟩ = some (.int .u8 0)) :
    Calls Try.prog 155 #[.pointer (some ⟨T, 0, none⟩)] w (SizeTo w (w.setCell ⟨T, 0, none⟩ (.slice (some ⟨bk, k + 4, none⟩) (m - 4) (c - 4))) n) := by
  have y0 : w.cell? ⟨T, 0, none⟩ = some (.slice (some ⟨bk, k, none⟩) m c) := (blk_cell h 0).trans rfl
  have y1 : w.cell? ⟨T, 1, none⟩ = some (.int .i64 0) := (blk_cell h 1).trans rfl
  have f0 := blk_frozen h 0
  have d1 : decide ((m : Int) < 4) = false := decide_eq_false (by omega)
  have d2 : decide (m < 4) = false := decide_eq_false (by omega)
  have d3 : (4 : Int) ≤ (m : Int) := by omega
  have d4 : (4 : Int) ≤ (c : Int) := by omega
  have d5 : (m : Int) ≤ (c : Int) := by omega
  have H := Aside0.mk h
  clear h
  rcases hn with rfl | rfl | rfl
  all_goals
    go_enter Try.func155, Try.ntmps155
    go_wp2
    refine wp_loop_rounds 5 ?_
    rw [rounds_succ]
    go_wp2
    rw [rounds_succ]
    go_wp2
    rw [rounds_succ]
    go_wp2
    rw [rounds_succ]
    go_wp2
    rw [rounds_succ]
    go_wp2
    go_ret
    exact ⟨rfl, rfl⟩
def TextTo (w2 : World) (s : ByteArray) (e : Ending) (w' : World) : Prop := e = .returned (.string s) ∧ w' = w2
set_option maxHeartbeats 8000000 in
set_option maxRecDepth 100000 in
theorem text_in (T bk k m c : Nat) (n : Nat) (s : ByteArray) (hn : n = 1 ∨ n = 2 ∨ n = 3) (w : World) (h : TSt w T bk k m c) (hT : T ≠ bk) (hm : n + 4 ≤ m) (hc : m ≤ c) (hc4 : n + 4 < c)
    (x0 : w.cell? ⟨bk, k, none⟩ = some (.int .u8 (n : Int))) (x1 : w.cell? ⟨bk, k + 1, none⟩ = some (.int .u8 0)) (x2 : w.cell? ⟨bk, k + 2, none⟩ = some (.int .u8 0)) (x3 : w.cell? ⟨bk, k + 3, none⟩ = some (.int .u8 0))
    (hcv : ∀ W : World, W = w.setCell ⟨T, 0, none⟩ (.slice (some ⟨bk, k + 4, none⟩) (m - 4) (c - 4)) → (convert 22 9 (.slice (some ⟨bk, k + 4, none⟩) n (c - 4))).run Try.prog W = .ok (.string s) W) :
    Calls Try.prog 154 #[.pointer (some ⟨T, 0, none⟩)] w (TextTo ((w.setCell ⟨T, 0, none⟩ (.slice (some ⟨bk, k + 4, none⟩) (m - 4) (c - 4))).setCell ⟨T, 0, none⟩ (.slice (some ⟨bk, k + 4 + n, none⟩) (m - 4 - n) (c - 4 - n))) s) := by
  have HS := Aside0.mk (size_calls T bk k m c (n : Int) (by omega) w h (by omega) hc (by omega) x0 x1 x2 x3)
  have K := Aside0.mk ((blk_set h 0 (.slice (some ⟨bk, k + 4, none⟩) (m - 4) (c - 4))).trans (by rfl : _ = some (Obj.cells #[.slice (some ⟨bk, k + 4, none⟩) (m - 4) (c - 4), .int .i64 0] 207 (0, 0))))
  obtain ⟨w2, hw2⟩ : ∃ w2, w2 = w.setCell ⟨T, 0, none⟩ (.slice (some ⟨bk, k + 4, none⟩) (m - 4) (c - 4)) := ⟨_, rfl⟩
  have hv := hcv w2 hw2
  rw [← hw2] at HS K ⊢
  clear hcv hw2 h x0 x1 x2 x3
  have y0 : w2.cell? ⟨T, 0, none⟩ = some (.slice (some ⟨bk, k + 4, none⟩) (m - 4) (c - 4)) := (blk_cell K.out 0).trans rfl
  have y1 : w2.cell? ⟨T, 1, none⟩ = some (.int .i64 0) := (blk_cell K.out 1).trans rfl
  have f0 := blk_frozen K.out 0
  generalize hm4 : m - 4 = m4 at *
  generalize hc4' : c - 4 = c4 at *
  have d1 : decide ((m4 : Int) < (n : Int)) = false := decide_eq_false (by omega)
  have d2 : decide (m4 < n) = false := decide_eq_false (by omega)
  have d3 : (0 : Int) ≤ (n : Int) := by omega
  have d4 : (n : Int) ≤ (c4 : Int) := by omega
  have d5 : (n : Int) ≤ (m4 : Int) := by omega
  have d6 : (m4 : Int) ≤ (c4 : Int) := by omega
  go_enter Try.func154, Try.ntmps154
  go_wp2_with (first | (go_at_call 155; (with_reducible refine (HS.out).mono ?_); rintro e w3 ⟨rfl, rfl⟩))
  go_ret
  exact ⟨rfl, rfl⟩
def TextEnd (w2 : World) (T : Nat) (s : ByteArray) (e : Ending) (w' : World) : Prop := ∃ A c, e = .returned (.string s) ∧ w' = w2.setCell ⟨T, 0, none⟩ (.slice A 0 c)
set_option maxHeartbeats 8000000 in
set_option maxRecDepth 100000 in
theorem text_end (T bk k c : Nat) (s : ByteArray) (w : World) (h : TSt w T bk k 7 c) (hT : T ≠ bk) (hc : 7 ≤ c)
    (x0 : w.cell? ⟨bk, k, none⟩ = some (.int .u8 3)) (x1 : w.cell? ⟨bk, k + 1, none⟩ = some (.int .u8 0)) (x2 : w.cell? ⟨bk, k + 2, none⟩ = some (.int .u8 0)) (x3 : w.cell? ⟨bk, k + 3, none⟩ = some (.int .u8 0))
    (hcv : ∀ W : World, W = w.setCell ⟨T, 0, none⟩ (.slice (some ⟨bk, k + 4, none⟩) 3 (c - 4)) → (convert 22 9 (.slice (some ⟨bk, k + 4, none⟩) 3 (c - 4))).run Try.prog W = .ok (.string s) W) :
    Calls Try.prog 154 #[.pointer (some ⟨T, 0, none⟩)] w (TextEnd (w.setCell ⟨T, 0, none⟩ (.slice (some ⟨bk, k + 4, none⟩) 3 (c - 4))) T s) := by
  have HS := Aside0.mk (size_calls T bk k 7 c 3 (by omega) w h (by omega) hc (by omega) x0 x1 x2 x3)
  have K := Aside0.mk ((blk_set h 0 (.slice (some ⟨bk, k + 4, none⟩) 3 (c - 4))).trans (by rfl : _ = some (Obj.cells #[.slice (some ⟨bk, k + 4, none⟩) 3 (c - 4), .int .i64 0] 207 (0, 0))))
  obtain ⟨w2, hw2⟩ : ∃ w2, w2 = w.setCell ⟨T, 0, none⟩ (.slice (some ⟨bk, k + 4, none⟩) 3 (c - 4)) := ⟨_, rfl⟩
  have hv := hcv w2 hw2
  rw [show 7 - 4 = 3 from rfl] at HS
  rw [← hw2] at HS K ⊢
  clear hcv hw2 h x0 x1 x2 x3
  have y0 : w2.cell? ⟨T, 0, none⟩ = some (.slice (some ⟨bk, k + 4, none⟩) 3 (c - 4)) := (blk_cell K.out 0).trans rfl
  have y1 : w2.cell? ⟨T, 1, none⟩ = some (.int .i64 0) := (blk_cell K.out 1).trans rfl
  have f0 := blk_frozen K.out 0
  generalize hc4' : c - 4 = c4 at *
  have d4 : (3 : Int) ≤ (c4 : Int) := by omega
  have d5 : 3 ≤ c4 := by omega
  by_cases c3 : c4 = 3
  · subst c3
    go_enter Try.func154, Try.ntmps154
    go_wp2_with (first | (go_at_call 155; (with_reducible refine (HS.out).mono ?_); rintro e w3 ⟨rfl, rfl⟩))
    go_ret
    exact ⟨_, _, rfl, rfl⟩
  · have d6 : 3 < c4 := by omega
    go_enter Try.func154, Try.ntmps154
    go_wp2_with (first | (go_at_call 155; (with_reducible refine (HS.out).mono ?_); rintro e w3 ⟨rfl, rfl⟩))
    go_ret
    exact ⟨_, _, rfl, rfl⟩
end Go.Proofs.Ytpeejdmbnlhjmaa.H
