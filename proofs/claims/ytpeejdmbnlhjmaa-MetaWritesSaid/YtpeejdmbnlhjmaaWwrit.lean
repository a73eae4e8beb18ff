/- Values written as blocks (meta.written; meta.Info, meta.Seek, meta.Comment), with the proofs of the calls: for any value of which it is known whether it can be, and its body. -/
import Derived.Test.YtpeejdmbnlhjmaaProg
import Derived.Below
import Derived.Deep.Draws
import Derived.Deep.AppendLies
import Derived.Maps.AppendAt
import Derived.OwnWalk
import Derived.Laws.BytesArg
import Derived.Laws.MakeOwn
import Derived.Laws.OwnMore
import Derived.Deep.OwnRows
import Derived.Tactics
import Derived.Lib.ConvBytes
import Derived.Laws.Slices
import Derived.WalkKit
import Derived.KernelRfl
import Derived.RowKit3
import Derived.Deep.LoopGhost
import Derived.Deep.QuietTactic
import Derived.BigQuiet
import Derived.WideLaws
import Derived.Deep.DeepCutAuto
import Derived.Deep.CutBlock
import Derived.Deep.RegionHeld3
import Derived.Laws.Rows
import Derived.Lib.AppendStr
import Derived.ArgAppend
import Derived.Laws.IdiomCopy
import Derived.OrdersHeld
import Derived.Laws.BitsLemmas
import Derived.RowKit
import Derived.Test.YtpeejdmbnlhjmaaWWords
import Derived.Test.YtpeejdmbnlhjmaaWLast
import Derived.Test.YtpeejdmbnlhjmaaWTab
import Derived.Test.YtpeejdmbnlhjmaaWFour
import Derived.Test.YtpeejdmbnlhjmaaWQPut
import Derived.Test.YtpeejdmbnlhjmaaWApart
import Derived.Test.YtpeejdmbnlhjmaaWArr
import Derived.Test.YtpeejdmbnlhjmaaWZeros
import Derived.Test.YtpeejdmbnlhjmaaWFoot
import Derived.Test.YtpeejdmbnlhjmaaWKept
import Derived.Test.YtpeejdmbnlhjmaaWShare
import Derived.Test.YtpeejdmbnlhjmaaWN
import Derived.Test.YtpeejdmbnlhjmaaWFootNe
import Derived.Test.YtpeejdmbnlhjmaaWAt
import Derived.Test.YtpeejdmbnlhjmaaWEqStruct
import Derived.Test.YtpeejdmbnlhjmaaWRepsOne
import Derived.Test.YtpeejdmbnlhjmaaWInv
import Derived.Test.YtpeejdmbnlhjmaaWInvWords
import Derived.Test.YtpeejdmbnlhjmaaWGuard
import Derived.Test.YtpeejdmbnlhjmaaWNEv
import Derived.Test.YtpeejdmbnlhjmaaWMore
import Derived.LoopN
import Derived.Outline
import Derived.Deep.WholeRow
import Derived.Test.YtpeejdmbnlhjmaaWseek
import Derived.Test.YtpeejdmbnlhjmaaMwrit
namespace Go.Proofs.Ytpeejdmbnlhjmaa.H
open Go.RowKit Go.Proofs.YtpeejdmbnlhjmaaW.PrintWords Go.Proofs.YtpeejdmbnlhjmaaW.PrintLast Go.Proofs.YtpeejdmbnlhjmaaW.PrintMore
attribute [local go_sem] max2_int min2_int max_two min_two max_three min_three max_four min_four   -- for this text's walks alone
set_option linter.unusedVariables false
set_option linter.unusedSimpArgs false
def selI (b : Bool) (x y : Int) : Int := if b = true then x else y
def selL (b : Bool) (x : List Int) : List Int := if b = true then x else []
def WrTo (w : World) (k : Int) (b : Bool) (l : List Int) (e : Ending) (w' : World) : Prop := ∃ v, e = .returned (.tuple #[.agg #[.int .i64 (selI b k 0), v], .int .i64 (selI b 0 6)]) ∧ Kd.R (Kd.int .u8) 5 w' w.heap.size (fun _ => True) v (selL b l) ∧ Below w.heap.size w w'
theorem store_ev2 {P : Program} {ops : Array Oper} {rest : List Oper} {o : Oper} {a : Act} {Q : Exit → Act → World → Prop} {W w1 : World} (hgd : o.guard = none) (t : TypeId) (p : Tmp) (x : Operand) (ho : o.op = .store t (.tmp p) x) (hN : o.dst = none) (u v : Value)
    (hp : a.eval (.tmp p) = u) (hx : a.eval x = v) (hs : (Instr.storeAt t u v).run P W = .ok () w1) (h : ∀ w', w' = w1 → wpList P ops Q rest a w') : wpList P ops Q (o :: rest) a W := by
  refine store_event (t := t) (p := p) (v := x) (w1 := w1) hgd ho hN ?_ h
  unfold execOp
  simp only [ho, hp, hx, Sem.run_bind, hs, Sem.run_pure, Result.andThen_ok]
def zero31 : Array Value := #[.int .i64 0, .int .i64 0, .int .i64 0, .int .i64 0, .int .i64 0, .int .i64 0, .int .i64 0, .int .i64 0, .int .u8 0, .int .u8 0, .int .u8 0, .int .u8 0, .int .u8 0, .int .u8 0, .int .u8 0, .int .u8 0, .int .u8 0, .int .u8 0, .int .u8 0, .int .u8 0, .int .u8 0, .int .u8 0, .int .u8 0, .int .u8 0]
set_option maxHeartbeats 8000000 in
set_option maxRecDepth 100000 in
theorem written_info (w : World) (i : Inf) (b : Bool) (l : List Int) (hR : ∀ W, Below w.heap.size w W → Calls Try.prog 111 #[.agg (icells i)] W (BoolTo W b)) (hB : b = true → ∀ W, Below w.heap.size w W → Calls Try.prog 112 #[.agg (icells i)] W (RowTo W l)) : Calls Try.prog 63 #[.iface 31 (.agg (icells i))] w (WrTo w 0 b l) := by
  have HR := Aside0.mk hR
  have HB := Aside0.mk hB
  clear hR hB
  have t31 : ∀ v w, _ := fun v w => assert_yes (P := Try.prog) (w := w) 31 20 v _ Try.underlying31 rfl
  go_enter Try.func63, Try.ntmps63
  go_upto_region 7 with fail
  clear t31
  have B2 := Aside0.mk (below_alloc (below_alloc (Below.refl w.heap.size w) (.cells #[.int .i64 0, .slice none 0 0] 24)) (.cells #[.int .i64 0, .slice none 0 0] 24))
  have K2 := Aside0.mk (blk_alloc (blk_new w (.cells #[.int .i64 0, .slice none 0 0] 24)) (.cells #[.int .i64 0, .slice none 0 0] 24))
  have S1 : (w.alloc (.cells #[.int .i64 0, .slice none 0 0] 24)).heap.size = w.heap.size + 1 := Array.size_push ..
  have K4 := Aside0.mk (blk_new (w.alloc (.cells #[.int .i64 0, .slice none 0 0] 24)) (.cells #[.int .i64 0, .slice none 0 0] 24))
  rw [S1] at K4
  clear S1
  generalize (w.alloc (.cells #[.int .i64 0, .slice none 0 0] 24)).alloc (.cells #[.int .i64 0, .slice none 0 0] 24) = w2 at *
  go_upto_region 8 with (first | ((with_reducible refine gate_store (t := 31) (p := 6) rfl ?_); refine store_ev2 rfl 31 6 (.tmp 17) rfl rfl _ (.agg (icells i)) rfl rfl (run_storeAt_new (P := Try.prog) w2 31 zero31 (icells i) (by kernel_rfl) rfl (by simp [Value.oneCell'])) ?_; intro w3 hw3))
  have B3 : Aside0 (Below w.heap.size w w3) := ⟨by rw [hw3]; exact below_alloc B2.out _⟩
  have J2 : Aside0 (w3.heap[w.heap.size]? = some (.cells #[.int .i64 0, .slice none 0 0] 24)) := ⟨by rw [hw3]; exact blk_alloc K2.out _⟩
  have J4 : Aside0 (w3.heap[w.heap.size + 1]? = some (.cells #[.int .i64 0, .slice none 0 0] 24)) := ⟨by rw [hw3]; exact blk_alloc K4.out _⟩
  have J9 : Aside0 (w3.heap[w2.heap.size]? = some (.cells (icells i) 31)) := ⟨by rw [hw3]; exact heap_alloc_last _ _⟩
  clear hw3 B2 K2 K4
  go_upto_region 9 with (first | ((with_reducible refine gate_dst (N := 18) rfl ?_); refine wpList_load_row rfl 31 (.tmp 6) rfl _ rfl 31 (icells i) (0, 0) _ J9.out Try.underlying31 rfl (by kernel_rfl) ?_) | (go_at_call 111; (with_reducible refine (HR.out _ B3.out).mono ?_); rintro e w4 ⟨rfl, hb⟩; have B4 := Aside0.mk (below_step B3.out hb); have L2 := Aside0.mk (blk_below J2.out hb); have L4 := Aside0.mk (blk_below J4.out hb); have L9 := Aside0.mk (blk_below J9.out hb); have HZ4 := Aside0.mk (show w.heap.size + 1 < w4.heap.size from (Array.getElem?_eq_some_iff.1 (blk_below J4.out hb)).1); clear hb  J2 J4 J9))
  cases b
  · skip
    have z0 : w4.cell? ⟨w.heap.size, 0, none⟩ = some (.int .i64 0) := (blk_cell L2.out 0).trans rfl
    have z1 : w4.cell? ⟨w.heap.size, 1, none⟩ = some (.slice none 0 0) := (blk_cell L2.out 1).trans rfl
    have f0 := blk_frozen L2.out 0
    have f1 := blk_frozen L2.out 1
    go_wp2_with fail
    refine bodyPost_ret (results_ct rfl _ _ w.heap.size 24 #[.int .i64 0, .slice none 0 0] (0, 0) _ rfl (set24 L2.out 0 (.slice none 0 0)) Try.underlying24 rfl (by kernel_rfl)) rfl ?_
    refine ⟨.slice none 0 0, rfl, ?_, ?_⟩
    · exact Kd.R_nil _ _ _ _ _
    · exact below_set (below_set B4.out (Nat.le_refl _)) (Nat.le_refl _)
  · skip
    have hB := HB.out rfl
    have HB2 := Aside0.mk hB
    clear hB HB
    go_upto_region 10 with fail
    go_upto_region 32 with (first | ((with_reducible refine gate_dst (N := 21) rfl ?_); refine wpList_load_row rfl 31 (.tmp 6) rfl _ rfl 31 (icells i) (0, 0) _ L9.out Try.underlying31 rfl (by kernel_rfl) ?_) | (go_at_call 112; (with_reducible refine (HB2.out _ B4.out).mono ?_); rintro e w5 ⟨v5, rfl, hr, hb⟩; have R5 := Aside0.mk hr; have B5 := Aside0.mk (below_step B4.out hb); have M2 := Aside0.mk (blk_below L2.out hb); have M4 := Aside0.mk (blk_below L4.out hb); clear hb hr  L2 L4 L9; have y0 : w5.cell? ⟨w.heap.size + 1, 0, none⟩ = some (.int .i64 0) := (blk_cell M4.out 0).trans rfl; have y1 : w5.cell? ⟨w.heap.size + 1, 1, none⟩ = some (.slice none 0 0) := (blk_cell M4.out 1).trans rfl; have f0 := blk_frozen M4.out 0; have f1 := blk_frozen M4.out 1; obtain ⟨A5, c5, hv5⟩ := Kd.R_slice R5.out; subst hv5))
    have P4 := Aside0.mk (set24 M4.out 0 (.slice A5 l.length c5))
    have P2 := Aside0.mk (set24_far (g := w.heap.size + 1) M2.out (by omega) (.int .i64 0) (.slice A5 l.length c5))
    have R6 : Aside0 (Kd.R (Kd.int .u8) 5 ((w5.setCell ⟨w.heap.size + 1, 0, none⟩ (.int .i64 0)).setCell ⟨w.heap.size + 1, 1, none⟩ (.slice A5 l.length c5)) w.heap.size (fun k_ => k_ ≠ w.heap.size + 1 ∧ k_ ≠ w.heap.size) (.slice A5 l.length c5) l) := ⟨by
      have hr := R5.out
      have hz : w.heap.size + 1 < w4.heap.size := HZ4.out
      have q : Kd.R (Kd.int .u8) 5 w5 w.heap.size (fun k_ => k_ ≠ w.heap.size + 1 ∧ k_ ≠ w.heap.size) (.slice A5 l.length c5) l := Kd.R_lower (Kd.R_mono (Kd.R_bound hr) (fun k_ hk_ => by have := hk_.2.1; omega)) (by omega)
      exact Kd.R_far (Kd.R_far q (fun k_ hk_ => hk_.1) _) (fun k_ hk_ => hk_.1) _⟩
    have B6 : Aside0 (Below w.heap.size w ((w5.setCell ⟨w.heap.size + 1, 0, none⟩ (.int .i64 0)).setCell ⟨w.heap.size + 1, 1, none⟩ (.slice A5 l.length c5))) := ⟨below_set (below_set B5.out (Nat.le_succ _)) (Nat.le_succ _)⟩
    generalize (w5.setCell ⟨w.heap.size + 1, 0, none⟩ (.int .i64 0)).setCell ⟨w.heap.size + 1, 1, none⟩ (.slice A5 l.length c5) = w6 at *
    clear y0 y1 f0 f1 M2 M4 R5 B5
    have y0 : w6.cell? ⟨w.heap.size + 1, 0, none⟩ = some (.int .i64 0) := (blk_cell P4.out 0).trans rfl
    have y1 : w6.cell? ⟨w.heap.size + 1, 1, none⟩ = some (.slice A5 l.length c5) := (blk_cell P4.out 1).trans rfl
    have z0 : w6.cell? ⟨w.heap.size, 0, none⟩ = some (.int .i64 0) := (blk_cell P2.out 0).trans rfl
    have z1 : w6.cell? ⟨w.heap.size, 1, none⟩ = some (.slice none 0 0) := (blk_cell P2.out 1).trans rfl
    have f0 := blk_frozen P2.out 0
    have f1 := blk_frozen P2.out 1
    go_wp2_with fail
    refine bodyPost_ret (results_ct rfl _ _ w.heap.size 24 #[.int .i64 0, .slice A5 l.length c5] (0, 0) _ rfl (set24 P2.out 0 (.slice A5 l.length c5)) Try.underlying24 rfl (by kernel_rfl)) rfl ?_
    refine ⟨.slice A5 l.length c5, rfl, ?_, ?_⟩
    · exact Kd.R_mono (Kd.R_far (Kd.R_far R6.out (fun k_ hk_ => hk_.2) _) (fun k_ hk_ => hk_.2) _) (fun _ _ => trivial)
    · exact below_set (below_set B6.out (Nat.le_refl _)) (Nat.le_refl _)
set_option maxHeartbeats 8000000 in
set_option maxRecDepth 100000 in
theorem fn_info (w : World) (i : Inf) (b : Bool) (l : List Int) (hR : ∀ W, Below w.heap.size w W → Calls Try.prog 111 #[.agg (icells i)] W (BoolTo W b)) (hB : b = true → ∀ W, Below w.heap.size w W → Calls Try.prog 112 #[.agg (icells i)] W (RowTo W l)) : Calls Try.prog 27 #[.agg (icells i)] w (WrTo w 0 b l) := by
  have B2 := Aside0.mk (show Below w.heap.size w ((w.alloc (.cells (icells i) 31)).alloc (.cells #[.int .i64 0, .slice none 0 0] 24)) from below_alloc (below_alloc (Below.refl w.heap.size w) _) _)
  have K1 := Aside0.mk (blk_alloc (blk_new w (.cells (icells i) 31)) (.cells #[.int .i64 0, .slice none 0 0] 24))
  have K2 := Aside0.mk (blk_new (w.alloc (.cells (icells i) 31)) (.cells #[.int .i64 0, .slice none 0 0] 24))
  have S1 : (w.alloc (.cells (icells i) 31)).heap.size = w.heap.size + 1 := Array.size_push ..
  rw [S1] at K2
  clear S1
  have HR := Aside0.mk hR
  have HB := Aside0.mk hB
  clear hR hB
  go_enter Try.func27, Try.ntmps27
  go_upto_region 1 with fail
  generalize (w.alloc (.cells (icells i) 31)).alloc (.cells #[.int .i64 0, .slice none 0 0] 24) = w2 at *
  have HZ := Aside0.mk (show w.heap.size + 1 < w2.heap.size from (Array.getElem?_eq_some_iff.1 K2.out).1)
  go_wp2_with (first | ((with_reducible refine gate_dst (N := 4) rfl ?_); refine wpList_load_row rfl 31 (.tmp 1) rfl _ rfl 31 (icells i) (0, 0) _ K1.out Try.underlying31 rfl (by kernel_rfl) ?_) | (go_at_call 63; (with_reducible refine (written_info _ i b l (fun W h => HR.out W (below_step B2.out h)) (fun hb W h => HB.out hb W (below_step B2.out h))).mono ?_); rintro e w3 ⟨v5, rfl, hr, hb⟩; obtain ⟨A5, c5, hv5⟩ := Kd.R_slice hr; subst hv5; have R3 := Aside0.mk hr; have B3 := Aside0.mk (below_step B2.out hb); have P2 := Aside0.mk (blk_below K2.out hb); clear hb hr ; have z0 : w3.cell? ⟨w.heap.size + 1, 0, none⟩ = some (.int .i64 0) := (blk_cell P2.out 0).trans rfl; have z1 : w3.cell? ⟨w.heap.size + 1, 1, none⟩ = some (.slice none 0 0) := (blk_cell P2.out 1).trans rfl; have f0 := blk_frozen P2.out 0; have f1 := blk_frozen P2.out 1))
  refine bodyPost_ret (results_ct rfl _ _ (w.heap.size + 1) 24 #[.int .i64 (selI b 0 0), .slice A5 (selL b l).length c5] (0, 0) _ rfl (set24 P2.out _ _) Try.underlying24 rfl (by kernel_rfl)) rfl ?_
  refine ⟨.slice A5 (selL b l).length c5, rfl, ?_, ?_⟩
  · have q : Kd.R (Kd.int .u8) 5 w3 w.heap.size (fun k_ => k_ ≠ w.heap.size + 1) (.slice A5 (selL b l).length c5) (selL b l) := Kd.R_lower (Kd.R_mono (Kd.R_bound R3.out) (fun k_ hk_ => by have := hk_.2.1; have := HZ.out; omega)) (by have := HZ.out; omega)
    exact Kd.R_mono (Kd.R_far (Kd.R_far q (fun k_ hk_ => hk_) _) (fun k_ hk_ => hk_) _) (fun _ _ => trivial)
  · exact below_set (below_set B3.out (Nat.le_succ _)) (Nat.le_succ _)
set_option maxHeartbeats 8000000 in
set_option maxRecDepth 100000 in
theorem written_seek (w : World) (A : Option Addr) (n c : Nat) (b : Bool) (l : List Int) (hR : ∀ W, Below w.heap.size w W → Calls Try.prog 114 #[.slice A n c] W (BoolTo W b)) (hB : b = true → ∀ W, Below w.heap.size w W → Calls Try.prog 115 #[.slice A n c] W (RowTo W l)) : Calls Try.prog 63 #[.iface 33 (.slice A n c)] w (WrTo w 3 b l) := by
  have HR := Aside0.mk hR
  have HB := Aside0.mk hB
  clear hR hB
  have t31 : ∀ v w, _ := fun v w => assert_no (P := Try.prog) (w := w) 33 31 20 v _ _ Try.underlying31 rfl (Try.zeroValue31 w) (by decide)
  have t42 : ∀ v w, _ := fun v w => assert_no (P := Try.prog) (w := w) 33 42 20 v _ _ Try.underlying42 rfl (Try.zeroValue42 w) (by decide)
  have t33 : ∀ v w, _ := fun v w => assert_yes (P := Try.prog) (w := w) 33 20 v _ Try.underlying33 rfl
  go_enter Try.func63, Try.ntmps63
  go_upto_region 18 with fail
  clear t31 t42 t33
  have B2 := Aside0.mk (below_alloc (below_alloc (Below.refl w.heap.size w) (.cells #[.int .i64 0, .slice none 0 0] 24)) (.cells #[.int .i64 0, .slice none 0 0] 24))
  have K2 := Aside0.mk (blk_alloc (blk_new w (.cells #[.int .i64 0, .slice none 0 0] 24)) (.cells #[.int .i64 0, .slice none 0 0] 24))
  have S1 : (w.alloc (.cells #[.int .i64 0, .slice none 0 0] 24)).heap.size = w.heap.size + 1 := Array.size_push ..
  have K4 := Aside0.mk (blk_new (w.alloc (.cells #[.int .i64 0, .slice none 0 0] 24)) (.cells #[.int .i64 0, .slice none 0 0] 24))
  rw [S1] at K4
  clear S1
  generalize (w.alloc (.cells #[.int .i64 0, .slice none 0 0] 24)).alloc (.cells #[.int .i64 0, .slice none 0 0] 24) = w2 at *
  have B3 := B2
  have J2 := K2
  have J4 := K4
  clear B2 K2 K4
  go_upto_region 19 with (first | (go_at_call 114; (with_reducible refine (HR.out _ B3.out).mono ?_); rintro e w4 ⟨rfl, hb⟩; have B4 := Aside0.mk (below_step B3.out hb); have L2 := Aside0.mk (blk_below J2.out hb); have L4 := Aside0.mk (blk_below J4.out hb); have HZ4 := Aside0.mk (show w.heap.size + 1 < w4.heap.size from (Array.getElem?_eq_some_iff.1 (blk_below J4.out hb)).1); clear hb  J2 J4 ))
  cases b
  · skip
    have z0 : w4.cell? ⟨w.heap.size, 0, none⟩ = some (.int .i64 0) := (blk_cell L2.out 0).trans rfl
    have z1 : w4.cell? ⟨w.heap.size, 1, none⟩ = some (.slice none 0 0) := (blk_cell L2.out 1).trans rfl
    have f0 := blk_frozen L2.out 0
    have f1 := blk_frozen L2.out 1
    go_wp2_with fail
    refine bodyPost_ret (results_ct rfl _ _ w.heap.size 24 #[.int .i64 0, .slice none 0 0] (0, 0) _ rfl (set24 L2.out 0 (.slice none 0 0)) Try.underlying24 rfl (by kernel_rfl)) rfl ?_
    refine ⟨.slice none 0 0, rfl, ?_, ?_⟩
    · exact Kd.R_nil _ _ _ _ _
    · exact below_set (below_set B4.out (Nat.le_refl _)) (Nat.le_refl _)
  · skip
    have hB := HB.out rfl
    have HB2 := Aside0.mk hB
    clear hB HB
    go_upto_region 20 with fail
    go_upto_region 32 with (first | (go_at_call 115; (with_reducible refine (HB2.out _ B4.out).mono ?_); rintro e w5 ⟨v5, rfl, hr, hb⟩; have R5 := Aside0.mk hr; have B5 := Aside0.mk (below_step B4.out hb); have M2 := Aside0.mk (blk_below L2.out hb); have M4 := Aside0.mk (blk_below L4.out hb); clear hb hr  L2 L4 ; have y0 : w5.cell? ⟨w.heap.size + 1, 0, none⟩ = some (.int .i64 0) := (blk_cell M4.out 0).trans rfl; have y1 : w5.cell? ⟨w.heap.size + 1, 1, none⟩ = some (.slice none 0 0) := (blk_cell M4.out 1).trans rfl; have f0 := blk_frozen M4.out 0; have f1 := blk_frozen M4.out 1; obtain ⟨A5, c5, hv5⟩ := Kd.R_slice R5.out; subst hv5))
    have P4 := Aside0.mk (set24 M4.out 3 (.slice A5 l.length c5))
    have P2 := Aside0.mk (set24_far (g := w.heap.size + 1) M2.out (by omega) (.int .i64 3) (.slice A5 l.length c5))
    have R6 : Aside0 (Kd.R (Kd.int .u8) 5 ((w5.setCell ⟨w.heap.size + 1, 0, none⟩ (.int .i64 3)).setCell ⟨w.heap.size + 1, 1, none⟩ (.slice A5 l.length c5)) w.heap.size (fun k_ => k_ ≠ w.heap.size + 1 ∧ k_ ≠ w.heap.size) (.slice A5 l.length c5) l) := ⟨by
      have hr := R5.out
      have hz : w.heap.size + 1 < w4.heap.size := HZ4.out
      have q : Kd.R (Kd.int .u8) 5 w5 w.heap.size (fun k_ => k_ ≠ w.heap.size + 1 ∧ k_ ≠ w.heap.size) (.slice A5 l.length c5) l := Kd.R_lower (Kd.R_mono (Kd.R_bound hr) (fun k_ hk_ => by have := hk_.2.1; omega)) (by omega)
      exact Kd.R_far (Kd.R_far q (fun k_ hk_ => hk_.1) _) (fun k_ hk_ => hk_.1) _⟩
    have B6 : Aside0 (Below w.heap.size w ((w5.setCell ⟨w.heap.size + 1, 0, none⟩ (.int .i64 3)).setCell ⟨w.heap.size + 1, 1, none⟩ (.slice A5 l.length c5))) := ⟨below_set (below_set B5.out (Nat.le_succ _)) (Nat.le_succ _)⟩
    generalize (w5.setCell ⟨w.heap.size + 1, 0, none⟩ (.int .i64 3)).setCell ⟨w.heap.size + 1, 1, none⟩ (.slice A5 l.length c5) = w6 at *
    clear y0 y1 f0 f1 M2 M4 R5 B5
    have y0 : w6.cell? ⟨w.heap.size + 1, 0, none⟩ = some (.int .i64 3) := (blk_cell P4.out 0).trans rfl
    have y1 : w6.cell? ⟨w.heap.size + 1, 1, none⟩ = some (.slice A5 l.length c5) := (blk_cell P4.out 1).trans rfl
    have z0 : w6.cell? ⟨w.heap.size, 0, none⟩ = some (.int .i64 0) := (blk_cell P2.out 0).trans rfl
    have z1 : w6.cell? ⟨w.heap.size, 1, none⟩ = some (.slice none 0 0) := (blk_cell P2.out 1).trans rfl
    have f0 := blk_frozen P2.out 0
    have f1 := blk_frozen P2.out 1
    go_wp2_with fail
    refine bodyPost_ret (results_ct rfl _ _ w.heap.size 24 #[.int .i64 3, .slice A5 l.length c5] (0, 0) _ rfl (set24 P2.out 3 (.slice A5 l.length c5)) Try.underlying24 rfl (by kernel_rfl)) rfl ?_
    refine ⟨.slice A5 l.length c5, rfl, ?_, ?_⟩
    · exact Kd.R_mono (Kd.R_far (Kd.R_far R6.out (fun k_ hk_ => hk_.2) _) (fun k_ hk_ => hk_.2) _) (fun _ _ => trivial)
    · exact below_set (below_set B6.out (Nat.le_refl _)) (Nat.le_refl _)
set_option maxHeartbeats 8000000 in
set_option maxRecDepth 100000 in
theorem fn_seek (w : World) (A : Option Addr) (n c : Nat) (b : Bool) (l : List Int) (hR : ∀ W, Below w.heap.size w W → Calls Try.prog 114 #[.slice A n c] W (BoolTo W b)) (hB : b = true → ∀ W, Below w.heap.size w W → Calls Try.prog 115 #[.slice A n c] W (RowTo W l)) : Calls Try.prog 31 #[.slice A n c] w (WrTo w 3 b l) := by
  have B2 := Aside0.mk (show Below w.heap.size w (w.alloc (.cells #[.int .i64 0, .slice none 0 0] 24)) from below_alloc (Below.refl w.heap.size w) _)
  have K2 := Aside0.mk (blk_new w (.cells #[.int .i64 0, .slice none 0 0] 24))
  have HR := Aside0.mk hR
  have HB := Aside0.mk hB
  clear hR hB
  go_enter Try.func31, Try.ntmps31
  go_upto_region 1 with fail
  generalize w.alloc (.cells #[.int .i64 0, .slice none 0 0] 24) = w2 at *
  have HZ := Aside0.mk (show w.heap.size < w2.heap.size from (Array.getElem?_eq_some_iff.1 K2.out).1)
  go_wp2_with (first | (go_at_call 63; (with_reducible refine (written_seek _ A n c b l (fun W h => HR.out W (below_step B2.out h)) (fun hb W h => HB.out hb W (below_step B2.out h))).mono ?_); rintro e w3 ⟨v5, rfl, hr, hb⟩; obtain ⟨A5, c5, hv5⟩ := Kd.R_slice hr; subst hv5; have R3 := Aside0.mk hr; have B3 := Aside0.mk (below_step B2.out hb); have P2 := Aside0.mk (blk_below K2.out hb); clear hb hr ; have z0 : w3.cell? ⟨w.heap.size, 0, none⟩ = some (.int .i64 0) := (blk_cell P2.out 0).trans rfl; have z1 : w3.cell? ⟨w.heap.size, 1, none⟩ = some (.slice none 0 0) := (blk_cell P2.out 1).trans rfl; have f0 := blk_frozen P2.out 0; have f1 := blk_frozen P2.out 1))
  refine bodyPost_ret (results_ct rfl _ _ w.heap.size 24 #[.int .i64 (selI b 3 0), .slice A5 (selL b l).length c5] (0, 0) _ rfl (set24 P2.out _ _) Try.underlying24 rfl (by kernel_rfl)) rfl ?_
  refine ⟨.slice A5 (selL b l).length c5, rfl, ?_, ?_⟩
  · have q : Kd.R (Kd.int .u8) 5 w3 w.heap.size (fun k_ => k_ ≠ w.heap.size) (.slice A5 (selL b l).length c5) (selL b l) := Kd.R_lower (Kd.R_mono (Kd.R_bound R3.out) (fun k_ hk_ => by have := hk_.2.1; have := HZ.out; omega)) (by have := HZ.out; omega)
    exact Kd.R_mono (Kd.R_far (Kd.R_far q (fun k_ hk_ => hk_) _) (fun k_ hk_ => hk_) _) (fun _ _ => trivial)
  · exact below_set (below_set B3.out (Nat.le_refl _)) (Nat.le_refl _)
set_option maxHeartbeats 8000000 in
set_option maxRecDepth 100000 in
theorem written_pad (w : World) (p : Int) (b : Bool) (l : List Int) (hR : ∀ W, Below w.heap.size w W → Calls Try.prog 113 #[.int .i64 p] W (BoolTo W b)) (hB : b = true → 0 ≤ p ∧ p ≤ 16777215 ∧ List.replicate p.toNat 0 = l) : Calls Try.prog 63 #[.iface 42 (.int .i64 p)] w (WrTo w 1 b l) := by
  have HR := Aside0.mk hR
  have HB := Aside0.mk hB
  clear hR hB
  have t31 : ∀ v w, _ := fun v w => assert_no (P := Try.prog) (w := w) 42 31 20 v _ _ Try.underlying31 rfl (Try.zeroValue31 w) (by decide)
  have t42 : ∀ v w, _ := fun v w => assert_yes (P := Try.prog) (w := w) 42 20 v _ Try.underlying42 rfl
  go_enter Try.func63, Try.ntmps63
  go_upto_region 13 with fail
  clear t31 t42
  have B2 := Aside0.mk (below_alloc (below_alloc (Below.refl w.heap.size w) (.cells #[.int .i64 0, .slice none 0 0] 24)) (.cells #[.int .i64 0, .slice none 0 0] 24))
  have K2 := Aside0.mk (blk_alloc (blk_new w (.cells #[.int .i64 0, .slice none 0 0] 24)) (.cells #[.int .i64 0, .slice none 0 0] 24))
  have S1 : (w.alloc (.cells #[.int .i64 0, .slice none 0 0] 24)).heap.size = w.heap.size + 1 := Array.size_push ..
  have K4 := Aside0.mk (blk_new (w.alloc (.cells #[.int .i64 0, .slice none 0 0] 24)) (.cells #[.int .i64 0, .slice none 0 0] 24))
  rw [S1] at K4
  clear S1
  generalize (w.alloc (.cells #[.int .i64 0, .slice none 0 0] 24)).alloc (.cells #[.int .i64 0, .slice none 0 0] 24) = w2 at *
  have B3 := B2
  have J2 := K2
  have J4 := K4
  clear B2 K2 K4
  go_upto_region 14 with (first | (go_at_call 113; (with_reducible refine (HR.out _ B3.out).mono ?_); rintro e w4 ⟨rfl, hb⟩; have B4 := Aside0.mk (below_step B3.out hb); have L2 := Aside0.mk (blk_below J2.out hb); have L4 := Aside0.mk (blk_below J4.out hb); have HZ4 := Aside0.mk (show w.heap.size + 1 < w4.heap.size from (Array.getElem?_eq_some_iff.1 (blk_below J4.out hb)).1); clear hb  J2 J4 ))
  cases b
  · skip
    have z0 : w4.cell? ⟨w.heap.size, 0, none⟩ = some (.int .i64 0) := (blk_cell L2.out 0).trans rfl
    have z1 : w4.cell? ⟨w.heap.size, 1, none⟩ = some (.slice none 0 0) := (blk_cell L2.out 1).trans rfl
    have f0 := blk_frozen L2.out 0
    have f1 := blk_frozen L2.out 1
    go_wp2_with fail
    refine bodyPost_ret (results_ct rfl _ _ w.heap.size 24 #[.int .i64 0, .slice none 0 0] (0, 0) _ rfl (set24 L2.out 0 (.slice none 0 0)) Try.underlying24 rfl (by kernel_rfl)) rfl ?_
    refine ⟨.slice none 0 0, rfl, ?_, ?_⟩
    · exact Kd.R_nil _ _ _ _ _
    · exact below_set (below_set B4.out (Nat.le_refl _)) (Nat.le_refl _)
  · skip
    have hB := HB.out rfl
    have HB2 := Aside0.mk hB
    clear hB HB
    go_upto_region 15 with fail
    go_upto_region 32 with (first | ((with_reducible refine gate_dst (N := 31) rfl ?_); refine Kd.R_make (Kd.int .u8) (w0 := w4) w4.heap.size 5 rfl (N := 31) rfl 22 _ _ rfl p rfl rfl Try.underlying22 (.int .u8 0) 1 infoU rfl (by decide) (by decide) (0 : Int) (ok := fun _ => True) (okp := fun _ => True) rfl (fun _ hk => hk) trivial HB2.out.1 (by have := HB2.out; omega) (Below.refl _ _) (Nat.le_refl _) ?_; intro v5 w5 hr hb hg5 hat5; rw [HB2.out.2.2] at hr; clear hg5 hat5; have R5 := Aside0.mk hr; have B5 := Aside0.mk (below_step B4.out hb); have M2 := Aside0.mk (blk_below L2.out hb); have M4 := Aside0.mk (blk_below L4.out hb); clear hb hr  L2 L4 ; have y0 : w5.cell? ⟨w.heap.size + 1, 0, none⟩ = some (.int .i64 0) := (blk_cell M4.out 0).trans rfl; have y1 : w5.cell? ⟨w.heap.size + 1, 1, none⟩ = some (.slice none 0 0) := (blk_cell M4.out 1).trans rfl; have f0 := blk_frozen M4.out 0; have f1 := blk_frozen M4.out 1; obtain ⟨A5, c5, hv5⟩ := Kd.R_slice R5.out; subst hv5))
    have P4 := Aside0.mk (set24 M4.out 1 (.slice A5 l.length c5))
    have P2 := Aside0.mk (set24_far (g := w.heap.size + 1) M2.out (by omega) (.int .i64 1) (.slice A5 l.length c5))
    have R6 : Aside0 (Kd.R (Kd.int .u8) 5 ((w5.setCell ⟨w.heap.size + 1, 0, none⟩ (.int .i64 1)).setCell ⟨w.heap.size + 1, 1, none⟩ (.slice A5 l.length c5)) w.heap.size (fun k_ => k_ ≠ w.heap.size + 1 ∧ k_ ≠ w.heap.size) (.slice A5 l.length c5) l) := ⟨by
      have hr := R5.out
      have hz : w.heap.size + 1 < w4.heap.size := HZ4.out
      have q : Kd.R (Kd.int .u8) 5 w5 w.heap.size (fun k_ => k_ ≠ w.heap.size + 1 ∧ k_ ≠ w.heap.size) (.slice A5 l.length c5) l := Kd.R_lower (Kd.R_mono (Kd.R_bound hr) (fun k_ hk_ => by have := hk_.2.1; omega)) (by omega)
      exact Kd.R_far (Kd.R_far q (fun k_ hk_ => hk_.1) _) (fun k_ hk_ => hk_.1) _⟩
    have B6 : Aside0 (Below w.heap.size w ((w5.setCell ⟨w.heap.size + 1, 0, none⟩ (.int .i64 1)).setCell ⟨w.heap.size + 1, 1, none⟩ (.slice A5 l.length c5))) := ⟨below_set (below_set B5.out (Nat.le_succ _)) (Nat.le_succ _)⟩
    generalize (w5.setCell ⟨w.heap.size + 1, 0, none⟩ (.int .i64 1)).setCell ⟨w.heap.size + 1, 1, none⟩ (.slice A5 l.length c5) = w6 at *
    clear y0 y1 f0 f1 M2 M4 R5 B5
    have y0 : w6.cell? ⟨w.heap.size + 1, 0, none⟩ = some (.int .i64 1) := (blk_cell P4.out 0).trans rfl
    have y1 : w6.cell? ⟨w.heap.size + 1, 1, none⟩ = some (.slice A5 l.length c5) := (blk_cell P4.out 1).trans rfl
    have z0 : w6.cell? ⟨w.heap.size, 0, none⟩ = some (.int .i64 0) := (blk_cell P2.out 0).trans rfl
    have z1 : w6.cell? ⟨w.heap.size, 1, none⟩ = some (.slice none 0 0) := (blk_cell P2.out 1).trans rfl
    have f0 := blk_frozen P2.out 0
    have f1 := blk_frozen P2.out 1
    go_wp2_with fail
    refine bodyPost_ret (results_ct rfl _ _ w.heap.size 24 #[.int .i64 1, .slice A5 l.length c5] (0, 0) _ rfl (set24 P2.out 1 (.slice A5 l.length c5)) Try.underlying24 rfl (by kernel_rfl)) rfl ?_
    refine ⟨.slice A5 l.length c5, rfl, ?_, ?_⟩
    · exact Kd.R_mono (Kd.R_far (Kd.R_far R6.out (fun k_ hk_ => hk_.2) _) (fun k_ hk_ => hk_.2) _) (fun _ _ => trivial)
    · exact below_set (below_set B6.out (Nat.le_refl _)) (Nat.le_refl _)
set_option maxHeartbeats 8000000 in
set_option maxRecDepth 100000 in
theorem fn_pad (w : World) (p : Int) (b : Bool) (l : List Int) (hR : ∀ W, Below w.heap.size w W → Calls Try.prog 113 #[.int .i64 p] W (BoolTo W b)) (hB : b = true → 0 ≤ p ∧ p ≤ 16777215 ∧ List.replicate p.toNat 0 = l) : Calls Try.prog 30 #[.int .i64 p] w (WrTo w 1 b l) := by
  have B2 := Aside0.mk (show Below w.heap.size w (w.alloc (.cells #[.int .i64 0, .slice none 0 0] 24)) from below_alloc (Below.refl w.heap.size w) _)
  have K2 := Aside0.mk (blk_new w (.cells #[.int .i64 0, .slice none 0 0] 24))
  have HR := Aside0.mk hR
  have HB := Aside0.mk hB
  clear hR hB
  go_enter Try.func30, Try.ntmps30
  go_upto_region 1 with fail
  generalize w.alloc (.cells #[.int .i64 0, .slice none 0 0] 24) = w2 at *
  have HZ := Aside0.mk (show w.heap.size < w2.heap.size from (Array.getElem?_eq_some_iff.1 K2.out).1)
  go_wp2_with (first | (go_at_call 63; (with_reducible refine (written_pad _ p b l (fun W h => HR.out W (below_step B2.out h)) HB.out).mono ?_); rintro e w3 ⟨v5, rfl, hr, hb⟩; obtain ⟨A5, c5, hv5⟩ := Kd.R_slice hr; subst hv5; have R3 := Aside0.mk hr; have B3 := Aside0.mk (below_step B2.out hb); have P2 := Aside0.mk (blk_below K2.out hb); clear hb hr ; have z0 : w3.cell? ⟨w.heap.size, 0, none⟩ = some (.int .i64 0) := (blk_cell P2.out 0).trans rfl; have z1 : w3.cell? ⟨w.heap.size, 1, none⟩ = some (.slice none 0 0) := (blk_cell P2.out 1).trans rfl; have f0 := blk_frozen P2.out 0; have f1 := blk_frozen P2.out 1))
  refine bodyPost_ret (results_ct rfl _ _ w.heap.size 24 #[.int .i64 (selI b 1 0), .slice A5 (selL b l).length c5] (0, 0) _ rfl (set24 P2.out _ _) Try.underlying24 rfl (by kernel_rfl)) rfl ?_
  refine ⟨.slice A5 (selL b l).length c5, rfl, ?_, ?_⟩
  · have q : Kd.R (Kd.int .u8) 5 w3 w.heap.size (fun k_ => k_ ≠ w.heap.size) (.slice A5 (selL b l).length c5) (selL b l) := Kd.R_lower (Kd.R_mono (Kd.R_bound R3.out) (fun k_ hk_ => by have := hk_.2.1; have := HZ.out; omega)) (by have := HZ.out; omega)
    exact Kd.R_mono (Kd.R_far (Kd.R_far q (fun k_ hk_ => hk_) _) (fun k_ hk_ => hk_) _) (fun _ _ => trivial)
  · exact below_set (below_set B3.out (Nat.le_refl _)) (Nat.le_refl _)
set_option maxHeartbeats 8000000 in
set_option maxRecDepth 100000 in
theorem written_comm (w : World) (M : ByteArray) (A : Option Addr) (n c : Nat) (b : Bool) (l : List Int) (hR : ∀ W, Below w.heap.size w W → Calls Try.prog 116 #[.agg #[.string M, .slice A n c]] W (BoolTo W b)) (hB : b = true → ∀ W, Below w.heap.size w W → Calls Try.prog 117 #[.agg #[.string M, .slice A n c]] W (RowTo W l)) : Calls Try.prog 63 #[.iface 36 (.agg #[.string M, .slice A n c])] w (WrTo w 4 b l) := by
  have HR := Aside0.mk hR
  have HB := Aside0.mk hB
  clear hR hB
  have t31 : ∀ v w, _ := fun v w => assert_no (P := Try.prog) (w := w) 36 31 20 v _ _ Try.underlying31 rfl (Try.zeroValue31 w) (by decide)
  have t42 : ∀ v w, _ := fun v w => assert_no (P := Try.prog) (w := w) 36 42 20 v _ _ Try.underlying42 rfl (Try.zeroValue42 w) (by decide)
  have t33 : ∀ v w, _ := fun v w => assert_no (P := Try.prog) (w := w) 36 33 20 v _ _ Try.underlying33 rfl (Try.zeroValue33 w) (by decide)
  have t36 : ∀ v w, _ := fun v w => assert_yes (P := Try.prog) (w := w) 36 20 v _ Try.underlying36 rfl
  go_enter Try.func63, Try.ntmps63
  go_upto_region 22 with fail
  clear t31 t42 t33 t36
  have B2 := Aside0.mk (below_alloc (below_alloc (Below.refl w.heap.size w) (.cells #[.int .i64 0, .slice none 0 0] 24)) (.cells #[.int .i64 0, .slice none 0 0] 24))
  have K2 := Aside0.mk (blk_alloc (blk_new w (.cells #[.int .i64 0, .slice none 0 0] 24)) (.cells #[.int .i64 0, .slice none 0 0] 24))
  have S1 : (w.alloc (.cells #[.int .i64 0, .slice none 0 0] 24)).heap.size = w.heap.size + 1 := Array.size_push ..
  have K4 := Aside0.mk (blk_new (w.alloc (.cells #[.int .i64 0, .slice none 0 0] 24)) (.cells #[.int .i64 0, .slice none 0 0] 24))
  rw [S1] at K4
  clear S1
  generalize (w.alloc (.cells #[.int .i64 0, .slice none 0 0] 24)).alloc (.cells #[.int .i64 0, .slice none 0 0] 24) = w2 at *
  go_upto_region 23 with fail
  have hw3 : ∃ w3, w3 = w2.alloc (.cells #[.string M, .slice A n c] 36) := ⟨_, rfl⟩
  obtain ⟨w3, hw3⟩ := hw3
  rw [← hw3]
  have B3 : Aside0 (Below w.heap.size w w3) := ⟨by rw [hw3]; exact below_alloc B2.out _⟩
  have J2 : Aside0 (w3.heap[w.heap.size]? = some (.cells #[.int .i64 0, .slice none 0 0] 24)) := ⟨by rw [hw3]; exact blk_alloc K2.out _⟩
  have J4 : Aside0 (w3.heap[w.heap.size + 1]? = some (.cells #[.int .i64 0, .slice none 0 0] 24)) := ⟨by rw [hw3]; exact blk_alloc K4.out _⟩
  have J9 : Aside0 (w3.heap[w2.heap.size]? = some (.cells (#[.string M, .slice A n c]) 36)) := ⟨by rw [hw3]; exact heap_alloc_last _ _⟩
  clear hw3 B2 K2 K4
  have x0 : w3.cell? ⟨w2.heap.size, 0, none⟩ = some (.string M) := (blk_cell J9.out 0).trans rfl
  have x1 : w3.cell? ⟨w2.heap.size, 1, none⟩ = some (.slice A n c) := (blk_cell J9.out 1).trans rfl
  go_upto_region 24 with (first | (go_at_call 116; (with_reducible refine (HR.out _ B3.out).mono ?_); rintro e w4 ⟨rfl, hb⟩; have B4 := Aside0.mk (below_step B3.out hb); have L2 := Aside0.mk (blk_below J2.out hb); have L4 := Aside0.mk (blk_below J4.out hb); have L9 := Aside0.mk (blk_below J9.out hb); have HZ4 := Aside0.mk (show w.heap.size + 1 < w4.heap.size from (Array.getElem?_eq_some_iff.1 (blk_below J4.out hb)).1); clear hb x0 x1 J2 J4 J9))
  cases b
  · skip
    have z0 : w4.cell? ⟨w.heap.size, 0, none⟩ = some (.int .i64 0) := (blk_cell L2.out 0).trans rfl
    have z1 : w4.cell? ⟨w.heap.size, 1, none⟩ = some (.slice none 0 0) := (blk_cell L2.out 1).trans rfl
    have f0 := blk_frozen L2.out 0
    have f1 := blk_frozen L2.out 1
    go_wp2_with fail
    refine bodyPost_ret (results_ct rfl _ _ w.heap.size 24 #[.int .i64 0, .slice none 0 0] (0, 0) _ rfl (set24 L2.out 0 (.slice none 0 0)) Try.underlying24 rfl (by kernel_rfl)) rfl ?_
    refine ⟨.slice none 0 0, rfl, ?_, ?_⟩
    · exact Kd.R_nil _ _ _ _ _
    · exact below_set (below_set B4.out (Nat.le_refl _)) (Nat.le_refl _)
  · skip
    have hB := HB.out rfl
    have HB2 := Aside0.mk hB
    clear hB HB
    go_upto_region 25 with fail
    have x0 : w4.cell? ⟨w2.heap.size, 0, none⟩ = some (.string M) := (blk_cell L9.out 0).trans rfl
    have x1 : w4.cell? ⟨w2.heap.size, 1, none⟩ = some (.slice A n c) := (blk_cell L9.out 1).trans rfl
    go_upto_region 32 with (first | (go_at_call 117; (with_reducible refine (HB2.out _ B4.out).mono ?_); rintro e w5 ⟨v5, rfl, hr, hb⟩; have R5 := Aside0.mk hr; have B5 := Aside0.mk (below_step B4.out hb); have M2 := Aside0.mk (blk_below L2.out hb); have M4 := Aside0.mk (blk_below L4.out hb); clear hb hr x0 x1 L2 L4 L9; have y0 : w5.cell? ⟨w.heap.size + 1, 0, none⟩ = some (.int .i64 0) := (blk_cell M4.out 0).trans rfl; have y1 : w5.cell? ⟨w.heap.size + 1, 1, none⟩ = some (.slice none 0 0) := (blk_cell M4.out 1).trans rfl; have f0 := blk_frozen M4.out 0; have f1 := blk_frozen M4.out 1; obtain ⟨A5, c5, hv5⟩ := Kd.R_slice R5.out; subst hv5))
    have P4 := Aside0.mk (set24 M4.out 4 (.slice A5 l.length c5))
    have P2 := Aside0.mk (set24_far (g := w.heap.size + 1) M2.out (by omega) (.int .i64 4) (.slice A5 l.length c5))
    have R6 : Aside0 (Kd.R (Kd.int .u8) 5 ((w5.setCell ⟨w.heap.size + 1, 0, none⟩ (.int .i64 4)).setCell ⟨w.heap.size + 1, 1, none⟩ (.slice A5 l.length c5)) w.heap.size (fun k_ => k_ ≠ w.heap.size + 1 ∧ k_ ≠ w.heap.size) (.slice A5 l.length c5) l) := ⟨by
      have hr := R5.out
      have hz : w.heap.size + 1 < w4.heap.size := HZ4.out
      have q : Kd.R (Kd.int .u8) 5 w5 w.heap.size (fun k_ => k_ ≠ w.heap.size + 1 ∧ k_ ≠ w.heap.size) (.slice A5 l.length c5) l := Kd.R_lower (Kd.R_mono (Kd.R_bound hr) (fun k_ hk_ => by have := hk_.2.1; omega)) (by omega)
      exact Kd.R_far (Kd.R_far q (fun k_ hk_ => hk_.1) _) (fun k_ hk_ => hk_.1) _⟩
    have B6 : Aside0 (Below w.heap.size w ((w5.setCell ⟨w.heap.size + 1, 0, none⟩ (.int .i64 4)).setCell ⟨w.heap.size + 1, 1, none⟩ (.slice A5 l.length c5))) := ⟨below_set (below_set B5.out (Nat.le_succ _)) (Nat.le_succ _)⟩
    generalize (w5.setCell ⟨w.heap.size + 1, 0, none⟩ (.int .i64 4)).setCell ⟨w.heap.size + 1, 1, none⟩ (.slice A5 l.length c5) = w6 at *
    clear y0 y1 f0 f1 M2 M4 R5 B5
    have y0 : w6.cell? ⟨w.heap.size + 1, 0, none⟩ = some (.int .i64 4) := (blk_cell P4.out 0).trans rfl
    have y1 : w6.cell? ⟨w.heap.size + 1, 1, none⟩ = some (.slice A5 l.length c5) := (blk_cell P4.out 1).trans rfl
    have z0 : w6.cell? ⟨w.heap.size, 0, none⟩ = some (.int .i64 0) := (blk_cell P2.out 0).trans rfl
    have z1 : w6.cell? ⟨w.heap.size, 1, none⟩ = some (.slice none 0 0) := (blk_cell P2.out 1).trans rfl
    have f0 := blk_frozen P2.out 0
    have f1 := blk_frozen P2.out 1
    go_wp2_with fail
    refine bodyPost_ret (results_ct rfl _ _ w.heap.size 24 #[.int .i64 4, .slice A5 l.length c5] (0, 0) _ rfl (set24 P2.out 4 (.slice A5 l.length c5)) Try.underlying24 rfl (by kernel_rfl)) rfl ?_
    refine ⟨.slice A5 l.length c5, rfl, ?_, ?_⟩
    · exact Kd.R_mono (Kd.R_far (Kd.R_far R6.out (fun k_ hk_ => hk_.2) _) (fun k_ hk_ => hk_.2) _) (fun _ _ => trivial)
    · exact below_set (below_set B6.out (Nat.le_refl _)) (Nat.le_refl _)
set_option maxHeartbeats 8000000 in
set_option maxRecDepth 100000 in
theorem fn_comm (w : World) (M : ByteArray) (A : Option Addr) (n c : Nat) (b : Bool) (l : List Int) (hR : ∀ W, Below w.heap.size w W → Calls Try.prog 116 #[.agg #[.string M, .slice A n c]] W (BoolTo W b)) (hB : b = true → ∀ W, Below w.heap.size w W → Calls Try.prog 117 #[.agg #[.string M, .slice A n c]] W (RowTo W l)) : Calls Try.prog 34 #[.agg #[.string M, .slice A n c]] w (WrTo w 4 b l) := by
  have B2 := Aside0.mk (show Below w.heap.size w ((w.alloc (.cells (#[.string M, .slice A n c]) 36)).alloc (.cells #[.int .i64 0, .slice none 0 0] 24)) from below_alloc (below_alloc (Below.refl w.heap.size w) _) _)
  have K1 := Aside0.mk (blk_alloc (blk_new w (.cells (#[.string M, .slice A n c]) 36)) (.cells #[.int .i64 0, .slice none 0 0] 24))
  have K2 := Aside0.mk (blk_new (w.alloc (.cells (#[.string M, .slice A n c]) 36)) (.cells #[.int .i64 0, .slice none 0 0] 24))
  have S1 : (w.alloc (.cells (#[.string M, .slice A n c]) 36)).heap.size = w.heap.size + 1 := Array.size_push ..
  rw [S1] at K2
  clear S1
  have HR := Aside0.mk hR
  have HB := Aside0.mk hB
  clear hR hB
  go_enter Try.func34, Try.ntmps34
  go_upto_region 1 with fail
  generalize (w.alloc (.cells (#[.string M, .slice A n c]) 36)).alloc (.cells #[.int .i64 0, .slice none 0 0] 24) = w2 at *
  have HZ := Aside0.mk (show w.heap.size + 1 < w2.heap.size from (Array.getElem?_eq_some_iff.1 K2.out).1)
  have x0 : w2.cell? ⟨w.heap.size, 0, none⟩ = some (.string M) := (blk_cell K1.out 0).trans rfl
  have x1 : w2.cell? ⟨w.heap.size, 1, none⟩ = some (.slice A n c) := (blk_cell K1.out 1).trans rfl
  go_wp2_with (first | (go_at_call 63; (with_reducible refine (written_comm _ M A n c b l (fun W h => HR.out W (below_step B2.out h)) (fun hb W h => HB.out hb W (below_step B2.out h))).mono ?_); rintro e w3 ⟨v5, rfl, hr, hb⟩; obtain ⟨A5, c5, hv5⟩ := Kd.R_slice hr; subst hv5; have R3 := Aside0.mk hr; have B3 := Aside0.mk (below_step B2.out hb); have P2 := Aside0.mk (blk_below K2.out hb); clear hb hr x0 x1; have z0 : w3.cell? ⟨w.heap.size + 1, 0, none⟩ = some (.int .i64 0) := (blk_cell P2.out 0).trans rfl; have z1 : w3.cell? ⟨w.heap.size + 1, 1, none⟩ = some (.slice none 0 0) := (blk_cell P2.out 1).trans rfl; have f0 := blk_frozen P2.out 0; have f1 := blk_frozen P2.out 1))
  refine bodyPost_ret (results_ct rfl _ _ (w.heap.size + 1) 24 #[.int .i64 (selI b 4 0), .slice A5 (selL b l).length c5] (0, 0) _ rfl (set24 P2.out _ _) Try.underlying24 rfl (by kernel_rfl)) rfl ?_
  refine ⟨.slice A5 (selL b l).length c5, rfl, ?_, ?_⟩
  · have q : Kd.R (Kd.int .u8) 5 w3 w.heap.size (fun k_ => k_ ≠ w.heap.size + 1) (.slice A5 (selL b l).length c5) (selL b l) := Kd.R_lower (Kd.R_mono (Kd.R_bound R3.out) (fun k_ hk_ => by have := hk_.2.1; have := HZ.out; omega)) (by have := HZ.out; omega)
    exact Kd.R_mono (Kd.R_far (Kd.R_far q (fun k_ hk_ => hk_) _) (fun k_ hk_ => hk_) _) (fun _ _ => trivial)
  · exact below_set (below_set B3.out (Nat.le_succ _)) (Nat.le_succ _)
end Go.Proofs.Ytpeejdmbnlhjmaa.H
