/- The chapter's comment written (meta.written, meta.Comment), with the proofs of the calls. -/
import Derived.Test.YtpeejdmbnlhjmaaProg
import Derived.Below
import Derived.Deep.Draws
import Derived.Deep.AppendLies
import Derived.Maps.AppendAt
import Derived.OwnWalk
import Derived.Laws.BytesArg
import Derived.Laws.MakeOwn
import Derived.Laws.OwnMore
import Derived.Deep.OwnRows
import Derived.Tactics
import Derived.Lib.ConvBytes
import Derived.Laws.Slices
import Derived.WalkKit
import Derived.KernelRfl
import Derived.RowKit3
import Derived.Deep.LoopGhost
import Derived.Deep.QuietTactic
import Derived.BigQuiet
import Derived.WideLaws
import Derived.Deep.DeepCutAuto
import Derived.Deep.CutBlock
import Derived.Deep.RegionHeld3
import Derived.Laws.Rows
import Derived.Lib.AppendStr
import Derived.ArgAppend
import Derived.Laws.IdiomCopy
import Derived.OrdersHeld
import Derived.Laws.BitsLemmas
import Derived.RowKit
import Derived.Test.YtpeejdmbnlhjmaaWWords
import Derived.Test.YtpeejdmbnlhjmaaWLast
import Derived.Test.YtpeejdmbnlhjmaaWTab
import Derived.Test.YtpeejdmbnlhjmaaWFour
import Derived.Test.YtpeejdmbnlhjmaaWQPut
import Derived.Test.YtpeejdmbnlhjmaaWApart
import Derived.Test.YtpeejdmbnlhjmaaWArr
import Derived.Test.YtpeejdmbnlhjmaaWZeros
import Derived.Test.YtpeejdmbnlhjmaaWFoot
import Derived.Test.YtpeejdmbnlhjmaaWKept
import Derived.Test.YtpeejdmbnlhjmaaWShare
import Derived.Test.YtpeejdmbnlhjmaaWN
import Derived.Test.YtpeejdmbnlhjmaaWFootNe
import Derived.Test.YtpeejdmbnlhjmaaWAt
import Derived.Test.YtpeejdmbnlhjmaaWEqStruct
import Derived.Test.YtpeejdmbnlhjmaaWRepsOne
import Derived.Test.YtpeejdmbnlhjmaaWInv
import Derived.Test.YtpeejdmbnlhjmaaWInvWords
import Derived.Test.YtpeejdmbnlhjmaaWGuard
import Derived.Test.YtpeejdmbnlhjmaaWNEv
import Derived.Test.YtpeejdmbnlhjmaaWMore
import Derived.LoopN
import Derived.Outline
import Derived.Deep.WholeRow
import Derived.Test.YtpeejdmbnlhjmaaMall
namespace Go.Proofs.Ytpeejdmbnlhjmaa.H
open Go.RowKit Go.Proofs.YtpeejdmbnlhjmaaW.PrintWords Go.Proofs.YtpeejdmbnlhjmaaW.PrintLast Go.Proofs.YtpeejdmbnlhjmaaW.PrintMore
attribute [local go_sem] max2_int min2_int max_two min_two max_three min_three max_four min_four   -- for this text's walks alone
set_option linter.unusedVariables false
set_option linter.unusedSimpArgs false
abbrev l17 : List Int := [2, 0, 0, 0, 109, 101, 1, 0, 0, 0, 3, 0, 0, 0, 65, 61, 98]
abbrev aggAb (g c : Nat) : Value := .agg #[.string sMe, .slice (some ⟨g, 0, none⟩) 1 c]
theorem assert_no {P : Program} {w : World} (t a xT : TypeId) (v z : Value) (d : TypeDesc) (hu : P.underlying a = some d) (hd : (match d with | .interface _ => false | _ => true) = true) (hz : (zeroValue a).run P w = .ok z w) (hne : t ≠ a) :
    (Instr.typeAssert (.iface t v) xT a true).run P w = .ok (.tuple #[z, .bool false]) w := by
  cases d <;> first | (simp at hd; done) | simp [Instr.typeAssert, run_underlying hu, hne, hz]
theorem assert_yes {P : Program} {w : World} (t xT : TypeId) (v : Value) (d : TypeDesc) (hu : P.underlying t = some d) (hd : (match d with | .interface _ => false | _ => true) = true) :
    (Instr.typeAssert (.iface t v) xT t true).run P w = .ok (.tuple #[v, .bool true]) w := by
  cases d <;> first | (simp at hd; done) | simp [Instr.typeAssert, run_underlying hu]
theorem set24 {W : World} {g : Nat} {a b : Value} (h : W.heap[g]? = some (.cells #[a, b] 24 (0, 0))) (n : Int) (v : Value) : ((W.setCell ⟨g, 0, none⟩ (.int .i64 n)).setCell ⟨g, 1, none⟩ v).heap[g]? = some (.cells #[.int .i64 n, v] 24 (0, 0)) :=
  (blk_set (blk_set h 0 (.int .i64 n)) 1 v).trans rfl
theorem set24_far {W : World} {g k : Nat} {o : Obj} (h : W.heap[k]? = some o) (hk : k ≠ g) (u v : Value) : ((W.setCell ⟨g, 0, none⟩ u).setCell ⟨g, 1, none⟩ v).heap[k]? = some o :=
  (Below.heap_setCell _ ⟨g, 1, none⟩ v k hk).trans ((Below.heap_setCell W ⟨g, 0, none⟩ u k hk).trans h)
def MetaTo (w : World) (e : Ending) (w' : World) : Prop := ∃ A c, e = .returned (.tuple #[.agg #[.int .i64 4, .slice A 17 c], .int .i64 0]) ∧ Kd.R (Kd.int .u8) 5 w' w.heap.size (fun _ => True) (.slice A 17 c) l17 ∧ Below w.heap.size w w'
set_option maxHeartbeats 8000000 in
set_option maxRecDepth 100000 in
theorem written_ab (w : World) (g c : Nat) (h : FBl w g) : Calls Try.prog 63 #[.iface 36 (aggAb g c)] w (MetaTo w) := by
  have H := Aside0.mk h
  clear h
  have t31 : ∀ v w, _ := fun v w => assert_no (P := Try.prog) (w := w) 36 31 20 v _ _ Try.underlying31 rfl (Try.zeroValue31 w) (by decide)
  have t42 : ∀ v w, _ := fun v w => assert_no (P := Try.prog) (w := w) 36 42 20 v _ _ Try.underlying42 rfl (Try.zeroValue42 w) (by decide)
  have t33 : ∀ v w, _ := fun v w => assert_no (P := Try.prog) (w := w) 36 33 20 v _ _ Try.underlying33 rfl (Try.zeroValue33 w) (by decide)
  have t36 : ∀ v w, _ := fun v w => assert_yes (P := Try.prog) (w := w) 36 20 v _ Try.underlying36 rfl
  go_enter Try.func63, Try.ntmps63
  go_upto_region 22 with fail
  clear t31 t42 t33 t36
  have B2 := Aside0.mk (below_alloc (below_alloc (Below.refl w.heap.size w) (.cells #[.int .i64 0, .slice none 0 0] 24)) (.cells #[.int .i64 0, .slice none 0 0] 24))
  have FB2 := Aside0.mk (show FBl _ g from fbl_alloc (fbl_alloc H.out (.cells #[.int .i64 0, .slice none 0 0] 24)) (.cells #[.int .i64 0, .slice none 0 0] 24))
  have K2 := Aside0.mk (blk_alloc (blk_new w (.cells #[.int .i64 0, .slice none 0 0] 24)) (.cells #[.int .i64 0, .slice none 0 0] 24))
  have S1 : (w.alloc (.cells #[.int .i64 0, .slice none 0 0] 24)).heap.size = w.heap.size + 1 := Array.size_push ..
  have K4 := Aside0.mk (blk_new (w.alloc (.cells #[.int .i64 0, .slice none 0 0] 24)) (.cells #[.int .i64 0, .slice none 0 0] 24))
  rw [S1] at K4
  clear S1
  generalize (w.alloc (.cells #[.int .i64 0, .slice none 0 0] 24)).alloc (.cells #[.int .i64 0, .slice none 0 0] 24) = w2 at *
  go_upto_region 23 with fail
  have hw3 : ∃ w3, w3 = w2.alloc (.cells #[.string sMe, .slice (some ⟨g, 0, none⟩) 1 c] 36) := ⟨_, rfl⟩
  obtain ⟨w3, hw3⟩ := hw3
  rw [← hw3]
  have B3 : Aside0 (Below w.heap.size w w3) := ⟨by rw [hw3]; exact below_alloc B2.out _⟩
  have FB3 : Aside0 (FBl w3 g) := ⟨by rw [hw3]; exact fbl_alloc FB2.out _⟩
  have J2 : Aside0 (w3.heap[w.heap.size]? = some (.cells #[.int .i64 0, .slice none 0 0] 24)) := ⟨by rw [hw3]; exact blk_alloc K2.out _⟩
  have J4 : Aside0 (w3.heap[w.heap.size + 1]? = some (.cells #[.int .i64 0, .slice none 0 0] 24)) := ⟨by rw [hw3]; exact blk_alloc K4.out _⟩
  have J9 : Aside0 (w3.heap[w2.heap.size]? = some (.cells #[.string sMe, .slice (some ⟨g, 0, none⟩) 1 c] 36)) := ⟨by rw [hw3]; exact heap_alloc_last _ _⟩
  clear hw3 FB2 B2 K2 K4
  have x0 : w3.cell? ⟨w2.heap.size, 0, none⟩ = some (.string sMe) := (blk_cell J9.out 0).trans rfl
  have x1 : w3.cell? ⟨w2.heap.size, 1, none⟩ = some (.slice (some ⟨g, 0, none⟩) 1 c) := (blk_cell J9.out 1).trans rfl
  go_upto_region 25 with (first | (go_at_call 116; (with_reducible refine (right_ab _ g c FB3.out).mono ?_); rintro e w4 ⟨rfl, hb⟩; have B4 := Aside0.mk (below_step B3.out hb); have FB4 := Aside0.mk (show FBl w4 g from fbl_below FB3.out hb); have L2 := Aside0.mk (blk_below J2.out hb); have L4 := Aside0.mk (blk_below J4.out hb); have L9 := Aside0.mk (blk_below J9.out hb); have HZ4 := Aside0.mk (show w.heap.size + 1 < w4.heap.size from (Array.getElem?_eq_some_iff.1 (blk_below J4.out hb)).1); clear hb x0 x1 J2 J4 J9))
  have x0 : w4.cell? ⟨w2.heap.size, 0, none⟩ = some (.string sMe) := (blk_cell L9.out 0).trans rfl
  have x1 : w4.cell? ⟨w2.heap.size, 1, none⟩ = some (.slice (some ⟨g, 0, none⟩) 1 c) := (blk_cell L9.out 1).trans rfl
  go_upto_region 32 with (first | (go_at_call 117; (with_reducible refine (body_ab _ g c FB4.out).mono ?_); rintro e w5 ⟨v5, rfl, hr, hb⟩; obtain ⟨A5, c5, rfl⟩ := Kd.R_slice hr; have R5 := Aside0.mk hr; have B5 := Aside0.mk (below_step B4.out hb); have HB5 := Aside0.mk hb; have M2 := Aside0.mk (blk_below L2.out hb); have M4 := Aside0.mk (blk_below L4.out hb); clear hb hr x0 x1 L2 L4 L9; have y0 : w5.cell? ⟨w.heap.size + 1, 0, none⟩ = some (.int .i64 0) := (blk_cell M4.out 0).trans rfl; have y1 : w5.cell? ⟨w.heap.size + 1, 1, none⟩ = some (.slice none 0 0) := (blk_cell M4.out 1).trans rfl; have f0 := blk_frozen M4.out 0; have f1 := blk_frozen M4.out 1))
  have P4 := Aside0.mk (set24 M4.out 4 (.slice A5 17 c5))
  have P2 := Aside0.mk (set24_far (g := w.heap.size + 1) M2.out (by omega) (.int .i64 4) (.slice A5 17 c5))
  have R6 : Aside0 (Kd.R (Kd.int .u8) 5 ((w5.setCell ⟨w.heap.size + 1, 0, none⟩ (.int .i64 4)).setCell ⟨w.heap.size + 1, 1, none⟩ (.slice A5 17 c5)) w.heap.size (fun k_ => k_ ≠ w.heap.size + 1 ∧ k_ ≠ w.heap.size) (.slice A5 17 c5) l17) := ⟨by
    have hr := R5.out
    have hz : w.heap.size + 1 < w4.heap.size := HZ4.out
    have q : Kd.R (Kd.int .u8) 5 w5 w.heap.size (fun k_ => k_ ≠ w.heap.size + 1 ∧ k_ ≠ w.heap.size) (.slice A5 17 c5) l17 := Kd.R_lower (Kd.R_mono (Kd.R_bound hr) (fun k_ hk_ => by have := hk_.2.1; omega)) (by omega)
    exact Kd.R_far (Kd.R_far q (fun k_ hk_ => hk_.1) _) (fun k_ hk_ => hk_.1) _⟩
  have B6 : Aside0 (Below w.heap.size w ((w5.setCell ⟨w.heap.size + 1, 0, none⟩ (.int .i64 4)).setCell ⟨w.heap.size + 1, 1, none⟩ (.slice A5 17 c5))) := ⟨below_set (below_set B5.out (Nat.le_succ _)) (Nat.le_succ _)⟩
  generalize (w5.setCell ⟨w.heap.size + 1, 0, none⟩ (.int .i64 4)).setCell ⟨w.heap.size + 1, 1, none⟩ (.slice A5 17 c5) = w6 at *
  clear y0 y1 f0 f1 M2 M4 R5 B5
  have y0 : w6.cell? ⟨w.heap.size + 1, 0, none⟩ = some (.int .i64 4) := (blk_cell P4.out 0).trans rfl
  have y1 : w6.cell? ⟨w.heap.size + 1, 1, none⟩ = some (.slice A5 17 c5) := (blk_cell P4.out 1).trans rfl
  have z0 : w6.cell? ⟨w.heap.size, 0, none⟩ = some (.int .i64 0) := (blk_cell P2.out 0).trans rfl
  have z1 : w6.cell? ⟨w.heap.size, 1, none⟩ = some (.slice none 0 0) := (blk_cell P2.out 1).trans rfl
  have f0 := blk_frozen P2.out 0
  have f1 := blk_frozen P2.out 1
  go_wp2_with fail
  refine bodyPost_ret (results_ct rfl _ _ w.heap.size 24 #[.int .i64 4, .slice A5 17 c5] (0, 0) _ rfl (set24 P2.out 4 (.slice A5 17 c5)) Try.underlying24 rfl (by kernel_rfl)) rfl ?_
  refine ⟨A5, c5, rfl, ?_, ?_⟩
  · exact Kd.R_mono (Kd.R_far (Kd.R_far R6.out (fun k_ hk_ => hk_.2) _) (fun k_ hk_ => hk_.2) _) (fun _ _ => trivial)
  · exact below_set (below_set B6.out (Nat.le_refl _)) (Nat.le_refl _)
set_option maxHeartbeats 8000000 in
set_option maxRecDepth 100000 in
theorem comment_ab (w : World) (g c : Nat) (h : FBl w g) : Calls Try.prog 34 #[aggAb g c] w (MetaTo w) := by
  have FB2 := Aside0.mk (show FBl _ g from fbl_alloc (fbl_alloc h (.cells #[.string sMe, .slice (some ⟨g, 0, none⟩) 1 c] 36)) (.cells #[.int .i64 0, .slice none 0 0] 24))
  have B2 := Aside0.mk (below_alloc (below_alloc (Below.refl w.heap.size w) (.cells #[.string sMe, .slice (some ⟨g, 0, none⟩) 1 c] 36)) (.cells #[.int .i64 0, .slice none 0 0] 24))
  have K1 := Aside0.mk (blk_alloc (blk_new w (.cells #[.string sMe, .slice (some ⟨g, 0, none⟩) 1 c] 36)) (.cells #[.int .i64 0, .slice none 0 0] 24))
  have K2 := Aside0.mk (blk_new (w.alloc (.cells #[.string sMe, .slice (some ⟨g, 0, none⟩) 1 c] 36)) (.cells #[.int .i64 0, .slice none 0 0] 24))
  have S1 : (w.alloc (.cells #[.string sMe, .slice (some ⟨g, 0, none⟩) 1 c] 36)).heap.size = w.heap.size + 1 := Array.size_push ..
  rw [S1] at K2
  clear S1 h
  go_enter Try.func34, Try.ntmps34
  go_upto_region 1 with fail
  generalize (w.alloc (.cells #[.string sMe, .slice (some ⟨g, 0, none⟩) 1 c] 36)).alloc (.cells #[.int .i64 0, .slice none 0 0] 24) = w2 at *
  have x0 : w2.cell? ⟨w.heap.size, 0, none⟩ = some (.string sMe) := (blk_cell K1.out 0).trans rfl
  have x1 : w2.cell? ⟨w.heap.size, 1, none⟩ = some (.slice (some ⟨g, 0, none⟩) 1 c) := (blk_cell K1.out 1).trans rfl
  go_wp2_with (first | (go_at_call 63; (with_reducible refine (written_ab _ g c FB2.out).mono ?_); rintro e w3 ⟨A5, c5, rfl, hr, hb⟩; have R3 := Aside0.mk hr; have B3 := Aside0.mk (below_step B2.out hb); have P2 := Aside0.mk (blk_below K2.out hb); have HZ := Aside0.mk (show w.heap.size + 1 < w2.heap.size from (Array.getElem?_eq_some_iff.1 K2.out).1); clear hb hr x0 x1; have z0 : w3.cell? ⟨w.heap.size + 1, 0, none⟩ = some (.int .i64 0) := (blk_cell P2.out 0).trans rfl; have z1 : w3.cell? ⟨w.heap.size + 1, 1, none⟩ = some (.slice none 0 0) := (blk_cell P2.out 1).trans rfl; have f0 := blk_frozen P2.out 0; have f1 := blk_frozen P2.out 1))
  refine bodyPost_ret (results_ct rfl _ _ (w.heap.size + 1) 24 #[.int .i64 4, .slice A5 17 c5] (0, 0) _ rfl (set24 P2.out 4 (.slice A5 17 c5)) Try.underlying24 rfl (by kernel_rfl)) rfl ?_
  refine ⟨A5, c5, rfl, ?_, ?_⟩
  · have q : Kd.R (Kd.int .u8) 5 w3 w.heap.size (fun k_ => k_ ≠ w.heap.size + 1) (.slice A5 17 c5) l17 := Kd.R_lower (Kd.R_mono (Kd.R_bound R3.out) (fun k_ hk_ => by have := hk_.2.1; have := HZ.out; omega)) (by have := HZ.out; omega)
    exact Kd.R_mono (Kd.R_far (Kd.R_far q (fun k_ hk_ => hk_) _) (fun k_ hk_ => hk_) _) (fun _ _ => trivial)
  · exact below_set (below_set B3.out (Nat.le_succ _)) (Nat.le_succ _)
end Go.Proofs.Ytpeejdmbnlhjmaa.H
