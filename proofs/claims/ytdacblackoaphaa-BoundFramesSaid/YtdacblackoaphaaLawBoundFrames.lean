-- written by this session's program wip/lawrow.py: the session's own text
import Derived.Test.YtdacblackoaphaaRows
import Derived.Test.YtdacblackoaphaaPBoundFramesx14
import Derived.Test.YtdacblackoaphaaPureBoundFrames
import Derived.Test.YtdacblackoaphaaHRow
import Derived.WalkKit
import Derived.ProofKit
import Derived.OpenShut
import Derived.ShutString
import Derived.ChangeOld
import Derived.Below
import Derived.SizedLaws
namespace Go.Proofs.Ytdacblackoaphaa.boundFrames
open Go.ChangeShapes Go.WideShapes Go.ChangeAt Go.RowKit Go.Proofs.Ytdacblackoaphaa.R
open Go.ChangeMaps (open_string shut_string)
set_option linter.unusedVariables false
theorem own : ownKnob Try.prog.godebug = none := by kernel_rfl
theorem laidOut : laidOutB Try.prog = true := by kernel_rfl
set_option maxRecDepth 100000 in
theorem lifted (os : Os) (started : os.Started) (H : Type) (enc : TypeId × Value → H) :
    ReturnsInHanded {} Try.checked os 4 .any (Rows.boundFramesSpec.pre6 enc Try.prog Try.f4 Rows.boundFramesRow.domain false) (Rows.boundFramesSpec.post enc Try.prog Try.f4 false true false false) := by
  refine returnsInHanded_of_change_sized (C := Try.checked) own started (by kernel_rfl) Try.func4
    (ChangeSpec.witness6 (enc := enc) (C := Try.checked) false ⟨#[], #[.int .u16 0, .int .u8 0, .int .u8 0, .int .u32 0, .int .u8 0, .agg #[.string ⟨#[]⟩, .slice none 0 0, .int .i64 0, .int .i64 0]], []⟩ 8 (by kernel_rfl) (by kernel_rfl) (by kernel_rfl) (by kernel_rfl)) ?_
  intro W base args ds gs before hval0 hW hcnd hsz0 _
  have hval : ∀ (j : Nat) t v, Try.f4.params[j]? = some t → args[j]? = some v → Value.okWide Try.prog W .any base t v := hval0
  have hW' := hW
  obtain ⟨p, q, hA0, hV, rfl, hfz, hnd⟩ := hW
  have hA : DataW.TrodAll enc Try.prog W 0 (fun _ => true) true Try.f4.params.toList args.toList ds p := hA0
  rw [Try.params4] at hA hval
  obtain ⟨v0, vs0, d0, ds0, p0, q0, hargs, rfl, rfl, h0, r0⟩ := trodAll_cons hA
  obtain ⟨v1, vs1, d1, ds1, p1, q1, rfl, rfl, rfl, h1, r1⟩ := trodAll_cons r0
  obtain ⟨v2, vs2, d2, ds2, p2, q2, rfl, rfl, rfl, h2, r2⟩ := trodAll_cons r1
  obtain ⟨v3, vs3, d3, ds3, p3, q3, rfl, rfl, rfl, h3, r3⟩ := trodAll_cons r2
  obtain ⟨v4, vs4, d4, ds4, p4, q4, rfl, rfl, rfl, h4, r4⟩ := trodAll_cons r3
  obtain ⟨v5, vs5, d5, ds5, p5, q5, rfl, rfl, rfl, h5, r5⟩ := trodAll_cons r4
  obtain ⟨rfl, rfl, rfl⟩ := trodAll_nil r5
  obtain rfl : args = #[v0, v1, v2, v3, v4, v5] := by cases args; simp_all
  obtain ⟨rfl, rfl⟩ := trodVars_none hV
  obtain ⟨a0, rfl, rfl, rfl, wa0⟩ := open_int Try.underlying30 (hval 0 30 v0 rfl rfl) h0
  obtain ⟨a1, rfl, rfl, rfl, wa1⟩ := open_int Try.underlying5 (hval 1 5 v1 rfl rfl) h1
  obtain ⟨a2, rfl, rfl, rfl, wa2⟩ := open_int Try.underlying5 (hval 2 5 v2 rfl rfl) h2
  obtain ⟨a3, rfl, rfl, rfl, wa3⟩ := open_int Try.underlying31 (hval 3 31 v3 rfl rfl) h3
  obtain ⟨a4, rfl, rfl, rfl, wa4⟩ := open_int Try.underlying5 (hval 4 5 v4 rfl rfl) h4
  have k5 := h5
  have lt5 : ∀ x ∈ p5, x.block < W.heap.size := by obtain ⟨m, hm⟩ := k5; exact DataW.trod_lt m _ _ _ hm
  obtain ⟨fuel5, hf5⟩ := h5
  obtain ⟨l105, rfl, hl5⟩ := agg_cells Try.underlying36 (by kernel_rfl : Try.prog.cellsOf 36 = 4) (hval 5 36 v5 rfl rfl)
  obtain ⟨e5_0, e5_1, e5_2, e5_3, rfl⟩ := list4 hl5
  have hf5 : DataW.trod enc Try.prog W 0 (fun _ => true) true fuel5 36 [e5_0, e5_1, e5_2, e5_3] = some _ := hf5
  obtain ⟨nfxhf5, fxhf5⟩ := trod_fields Try.underlying36 hf5
  obtain ⟨yfxhf5_0, tfxhf5_0⟩ := trod_field fxhf5 0 0 2 34 rfl rfl rfl (by kernel_rfl) [e5_0, e5_1] rfl
  obtain ⟨nfxtfxhf5_0, fxtfxhf5_0⟩ := trod_fields Try.underlying34 tfxhf5_0
  obtain ⟨yfxtfxhf5_0_0, tfxtfxhf5_0_0⟩ := trod_field fxtfxhf5_0 0 0 1 9 rfl rfl rfl (by kernel_rfl) [e5_0] rfl
  obtain ⟨a5_0, hq, _, wa5_0⟩ := DataW.trod_string Try.underlying9 tfxtfxhf5_0_0
  obtain rfl := (List.cons.inj hq).1; clear hq
  obtain ⟨yfxtfxhf5_0_1, tfxtfxhf5_0_1⟩ := trod_field fxtfxhf5_0 1 1 1 32 rfl rfl rfl (by kernel_rfl) [e5_1] rfl
  obtain ⟨l5_1, A5_1, c5_1, hq, hr5_1, hc5_1, hm5_1, hw5_1⟩ := rowstr_of_trod Try.underlying32 Try.underlying9 (by kernel_rfl) tfxtfxhf5_0_1
  obtain rfl := (List.cons.inj hq).1; clear hq
  obtain ⟨yfxhf5_1, tfxhf5_1⟩ := trod_field fxhf5 1 2 1 3 rfl rfl rfl (by kernel_rfl) [e5_2] rfl
  obtain ⟨a5_2, hq, _, wa5_2⟩ := DataW.trod_int Try.underlying3 tfxhf5_1
  obtain rfl := (List.cons.inj hq).1; clear hq
  obtain ⟨yfxhf5_2, tfxhf5_2⟩ := trod_field fxhf5 2 3 1 3 rfl rfl rfl (by kernel_rfl) [e5_3] rfl
  obtain ⟨a5_3, hq, _, wa5_3⟩ := DataW.trod_int Try.underlying3 tfxhf5_2
  obtain rfl := (List.cons.inj hq).1; clear hq
  clear hA0 hval0 hsz0
  refine (PBoundFrames.serinettelaw24_BoundFrames.walk Pure.BoundFrames a0 a1 a2 a3 a4 a5_0 l5_1 a5_2 a5_3 W wa0 wa1 wa2 wa3 wa4 wa5_0 A5_1 c5_1 hr5_1 hc5_1 hm5_1 hw5_1 wa5_2 wa5_3).mono fun e W' ⟨he, bel⟩ => ?_
  subst he
  exact ⟨_, rfl, _, _, _, [], _, [], hW', trodAll_mk1 (shut_bool Try.underlying4 _), (trodAll_cons_mk (shut_int Try.underlying30 wa0) (trodAll_cons_mk (shut_int Try.underlying5 wa1) (trodAll_cons_mk (shut_int Try.underlying5 wa2) (trodAll_cons_mk (shut_int Try.underlying31 wa3) (trodAll_cons_mk (shut_int Try.underlying5 wa4) (trodAll_cons_mk (Below.trod laidOut (by kernel_rfl) (of_decide_eq_true (by kernel_rfl)) k5 bel lt5) trodAll_mk0)))))), rfl, bel.frame _, fun h => by cases h⟩
theorem over : Rows.boundFramesRow.holds Try.pinned (OpenSpec.ofChange Rows.boundFramesSpec) :=
  OpenClaim.holds_of_wide 4 Try.f4 rfl rfl rfl rfl rfl rfl rfl ⟨rfl, rfl, rfl, rfl, rfl⟩ rfl rfl rfl rfl rfl (by kernel_rfl) Try.func4 (by kernel_rfl)
    (of_decide_eq_true (by kernel_rfl)) (by unfold Func.isWrapper; first | (rw [if_pos (by decide +kernel)]; kernel_rfl) | (rw [if_neg (by decide +kernel)]; exact ⟨rfl, rfl⟩))
    (fun os started H enc _ => lifted os started H enc)
theorem proved : Rows.BoundFramesSaid := over
#print axioms proved
end Go.Proofs.Ytdacblackoaphaa.boundFrames
namespace Go.Proofs.Ytdacblackoaphaa
/-- The row, under a short name, for the claim. -/
theorem boundFrames_holds : Rows.BoundFramesSaid := boundFrames.proved
end Go.Proofs.Ytdacblackoaphaa
