/- The bytes of the chapter's comment (meta.commentBody), with the proof of the call. -/
import Derived.Test.YtpeejdmbnlhjmaaProg
import Derived.Below
import Derived.Deep.Draws
import Derived.Deep.AppendLies
import Derived.Maps.AppendAt
import Derived.OwnWalk
import Derived.Laws.BytesArg
import Derived.Laws.MakeOwn
import Derived.Laws.OwnMore
import Derived.Deep.OwnRows
import Derived.Tactics
import Derived.Lib.ConvBytes
import Derived.Laws.Slices
import Derived.WalkKit
import Derived.KernelRfl
import Derived.RowKit3
import Derived.Deep.LoopGhost
import Derived.Deep.QuietTactic
import Derived.BigQuiet
import Derived.WideLaws
import Derived.Deep.DeepCutAuto
import Derived.Deep.CutBlock
import Derived.Deep.RegionHeld3
import Derived.Laws.Rows
import Derived.Lib.AppendStr
import Derived.ArgAppend
import Derived.Laws.IdiomCopy
import Derived.OrdersHeld
import Derived.Laws.BitsLemmas
import Derived.RowKit
import Derived.Test.YtpeejdmbnlhjmaaWWords
import Derived.Test.YtpeejdmbnlhjmaaWLast
import Derived.Test.YtpeejdmbnlhjmaaWTab
import Derived.Test.YtpeejdmbnlhjmaaWFour
import Derived.Test.YtpeejdmbnlhjmaaWQPut
import Derived.Test.YtpeejdmbnlhjmaaWApart
import Derived.Test.YtpeejdmbnlhjmaaWArr
import Derived.Test.YtpeejdmbnlhjmaaWZeros
import Derived.Test.YtpeejdmbnlhjmaaWFoot
import Derived.Test.YtpeejdmbnlhjmaaWKept
import Derived.Test.YtpeejdmbnlhjmaaWShare
import Derived.Test.YtpeejdmbnlhjmaaWN
import Derived.Test.YtpeejdmbnlhjmaaWFootNe
import Derived.Test.YtpeejdmbnlhjmaaWAt
import Derived.Test.YtpeejdmbnlhjmaaWEqStruct
import Derived.Test.YtpeejdmbnlhjmaaWRepsOne
import Derived.Test.YtpeejdmbnlhjmaaWInv
import Derived.Test.YtpeejdmbnlhjmaaWInvWords
import Derived.Test.YtpeejdmbnlhjmaaWGuard
import Derived.Test.YtpeejdmbnlhjmaaWNEv
import Derived.Test.YtpeejdmbnlhjmaaWMore
import Derived.LoopN
import Derived.Outline
import Derived.Deep.RegionLaw
import Derived.Test.YtpeejdmbnlhjmaaMcom
namespace Go.Proofs.Ytpeejdmbnlhjmaa.H
open Go.RowKit Go.Proofs.YtpeejdmbnlhjmaaW.PrintWords Go.Proofs.YtpeejdmbnlhjmaaW.PrintLast Go.Proofs.YtpeejdmbnlhjmaaW.PrintMore
attribute [local go_sem] max2_int min2_int max_two min_two max_three min_three max_four min_four   -- for this text's walks alone
set_option linter.unusedVariables false
set_option linter.unusedSimpArgs false
theorem cell_below {W W' : World} {a : Addr} {v : Value} (hb : Below W.heap.size W W') (h : W.cell? a = some v) : W'.cell? a = some v := (hb.cell (World.block_lt_of_cell? W _ h)).trans h
theorem below_join {w0 W W' : World} (hb : Below W.heap.size W W') (h : Below w0.heap.size w0 W) : Below w0.heap.size w0 W' := below_step h hb
theorem infoU : (Try.prog.info? 5).map (fun i => (i.zero, i.size, i.bytes)) = some (some (.int .u8 0), 1, 1) := by kernel_rfl
set_option maxHeartbeats 8000000 in
set_option maxRecDepth 100000 in
theorem body_ab (w : World) (g c : Nat) (h : FBl w g) : Calls Try.prog 117 #[.agg #[.string sMe, .slice (some ⟨g, 0, none⟩) 1 c]] w (RowTo w [2, 0, 0, 0, 109, 101, 1, 0, 0, 0, 3, 0, 0, 0, 65, 61, 98]) := by
  have H := Aside0.mk h
  have hb0 := blk_new w (.cells #[.string sMe, .slice (some ⟨g, 0, none⟩) 1 c] 36)
  have HB0 := Aside0.mk hb0
  have B0 := Aside0.mk (below_alloc (Below.refl w.heap.size w) (.cells #[.string sMe, .slice (some ⟨g, 0, none⟩) 1 c] 36))
  have FB0 := Aside0.mk (show FBl _ g from fbl_alloc h (.cells #[.string sMe, .slice (some ⟨g, 0, none⟩) 1 c] 36))
  clear h hb0
  go_enter Try.func117, Try.ntmps117
  go_upto_region 1 with fail
  generalize w.alloc (.cells #[.string sMe, .slice (some ⟨g, 0, none⟩) 1 c] 36) = w1 at *
  have S0 := B0.out.size
  have x0 : w1.cell? ⟨w.heap.size, 0, none⟩ = some (.string sMe) := (blk_cell HB0.out 0).trans rfl
  have x1 : w1.cell? ⟨w.heap.size, 1, none⟩ = some (.slice (some ⟨g, 0, none⟩) 1 c) := (blk_cell HB0.out 1).trans rfl
  go_region_held3 (fun W => W.cell? ⟨w.heap.size, 0, none⟩ = some (.string sMe) ∧ Below w1.heap.size w1 W)
    (first | (go_keep; done) | (((try go_split_ands); (repeat' apply And.intro)) <;> first | assumption | exact cell_below ‹_› ‹_› | exact below_drew (Below.refl _ _) | exact below_drew ‹_› | exact below_alloc ‹_› _ | exact below_join ‹_› ‹_›))
    (first
      | (go_at_call 159; go_split_ands; (with_reducible refine (little_calls 2 _ (by decide)).mono ?_); rintro e w2 ⟨v2, rfl, hr2, hb2⟩)
      | (refine R_append_str_step (w0 := w1) w1.heap.size (by rfl) (.tmp 9) (.tmp 11) 22 9 5 rfl Try.underlying22 Try.underlying9 infoU _ [2, 0, 0, 0] sMe rfl rfl (Kd.R_lower hr2 (Nat.le_refl _)) (below_join hb2 (below_drew1 (Below.refl _ _))) hb2.size (by decide) ?_; intro v3 w3 hr3 hb3 hg3; have hc3 := cell_below hb3 x0)
      | fail)
  have R3 := Aside0.mk (show Kd.R (Kd.int .u8) 5 w3 w1.heap.size (fun _ => True) v3 [2, 0, 0, 0, 109, 101] from hr3)
  have HB3 := Aside0.mk hb3
  have y1 : w3.cell? ⟨w.heap.size, 1, none⟩ = some (.slice (some ⟨g, 0, none⟩) 1 c) := cell_below hb3 x1
  have fb : w1.cell? ⟨g, 0, none⟩ = some (.string sAb) := FB0.out
  have FBB := Aside0.mk fb
  have X1 := Aside0.mk x1
  clear hr3 hb3 hg3 hc3 hr2 hb2 x0 x1 fb
  go_upto_block 0 with (first
    | (go_at_call 159; (with_reducible refine (little_calls 1 _ (by decide)).mono ?_); rintro e w4 ⟨v4, rfl, hr4, hb4⟩; obtain ⟨A4, c4, rfl⟩ := Kd.R_slice hr4; have C4 := Aside0.mk (show Kd.C (Kd.int .u8) w4 A4 4 [1, 0, 0, 0] from (Kd.R_reads' hr4).2.2); have HB4 := Aside0.mk (below_join hb4 HB3.out); have R4 := Aside0.mk (Kd.R_below R3.out hb4); have y1' := cell_below HB4.out X1.out; clear hr4 hb4 y1)
    | ((with_reducible refine gate_builtin (b := .append) (xs := #[.tmp 13, .tmp 17]) rfl ?_); at_builtin; refine Kd.R_append_rows (Kd.int .u8) (w0 := w1) w1.heap.size rfl (.tmp 13) (.tmp 17) 22 5 (.int .u8 0) 1 rfl Try.underlying22 infoU rfl (by decide) (by decide) _ [2, 0, 0, 0, 109, 101] [1, 0, 0, 0] _ _ _ (fun _ => True) (fun _ => False) rfl rfl R4.out C4.out (fun _ _ h => h) (fun _ h => h.elim) (fun _ _ => trivial) HB4.out HB4.out.size (by decide) ?_; intro v5 w5 hr5 hb5 hg hat; clear hg hat; have R5 := Aside0.mk hr5; have HB5 := Aside0.mk hb5; have y2 := cell_below hb5 X1.out; clear hr5 hb5 y1'))
  have R5' := Aside0.mk (show Kd.R (Kd.int .u8) 5 w5 w1.heap.size (fun _ => True) v5 [2, 0, 0, 0, 109, 101, 1, 0, 0, 0] from R5.out)
  clear R5 R4 R3 HB3 HB4
  go_wp2_with fail
  refine wp_loop_rounds 2 ?_
  rw [rounds_succ]
  have z0 := cell_below HB5.out FBB.out
  go_wp2_with (first
    | (go_at_call 159; (with_reducible refine (little_calls 3 _ (by decide)).mono ?_); rintro e w6 ⟨v6, rfl, hr6, hb6⟩; obtain ⟨A6, c6, rfl⟩ := Kd.R_slice hr6; have C6 := Aside0.mk (show Kd.C (Kd.int .u8) w6 A6 4 [3, 0, 0, 0] from (Kd.R_reads' hr6).2.2); have HB6 := Aside0.mk (below_join hb6 HB5.out); have R6 := Aside0.mk (Kd.R_below R5'.out hb6); clear hr6 hb6)
    | ((with_reducible refine gate_builtin (b := .append) (xs := #[.tmp 26, .tmp 29]) rfl ?_); at_builtin; refine Kd.R_append_rows (Kd.int .u8) (w0 := w1) w1.heap.size rfl (.tmp 26) (.tmp 29) 22 5 (.int .u8 0) 1 rfl Try.underlying22 infoU rfl (by decide) (by decide) _ [2, 0, 0, 0, 109, 101, 1, 0, 0, 0] [3, 0, 0, 0] _ _ _ (fun _ => True) (fun _ => False) rfl rfl R6.out C6.out (fun _ _ h => h) (fun _ h => h.elim) (fun _ _ => trivial) HB6.out HB6.out.size (by decide) ?_; intro v7 w7 hr7 hb7 hg hat; clear hg hat; have R7 := Aside0.mk hr7; have HB7 := Aside0.mk hb7; clear hr7 hb7)
    | ((with_reducible refine gate_builtin (b := .append) (xs := #[.tmp 31, .tmp 32]) rfl ?_); at_builtin; refine R_append_str (w0 := w1) w1.heap.size rfl (.tmp 31) (.tmp 32) 22 9 5 rfl Try.underlying22 Try.underlying9 infoU _ [2, 0, 0, 0, 109, 101, 1, 0, 0, 0, 3, 0, 0, 0] sAb rfl rfl R7.out HB7.out HB7.out.size (by decide) ?_; intro v8 w8 hr8 hb8 hg8; clear hg8; have R8 := Aside0.mk hr8; have HB8 := Aside0.mk hb8; clear hr8 hb8))
  rw [rounds_succ]
  go_wp2_with fail
  go_ret
  refine ⟨_, rfl, ?_, ?_⟩
  · exact Kd.R_lower R8.out S0
  · exact below_join HB8.out B0.out
end Go.Proofs.Ytpeejdmbnlhjmaa.H
