-- written by this session's program wip/lawrow.py: the session's own text
import Derived.Test.YtbohlcccdcilkaaRows
import Derived.Test.YtbohlcccdcilkaaPHeadCutsx2
import Derived.Test.YtbohlcccdcilkaaPureHeadCuts
import Derived.Test.YtbohlcccdcilkaaHRow
import Derived.WalkKit
import Derived.ProofKit
import Derived.OpenShut
import Derived.ShutString
import Derived.ChangeOld
import Derived.Below
import Derived.SizedLaws
namespace Go.Proofs.Ytbohlcccdcilkaa.headCuts
open Go.ChangeShapes Go.WideShapes Go.ChangeAt Go.RowKit Go.Proofs.Ytbohlcccdcilkaa.R
open Go.ChangeMaps (open_string shut_string)
set_option linter.unusedVariables false
theorem own : ownKnob Try.prog.godebug = none := by kernel_rfl
theorem laidOut : laidOutB Try.prog = true := by kernel_rfl
set_option maxRecDepth 100000 in
theorem lifted (os : Os) (started : os.Started) (H : Type) (enc : TypeId × Value → H) :
    ReturnsInHanded {} Try.checked os 8 .any (Rows.headCutsSpec.pre6 enc Try.prog Try.f8 Rows.headCutsRow.domain false) (Rows.headCutsSpec.post enc Try.prog Try.f8 false true false false) := by
  refine returnsInHanded_of_change_sized (C := Try.checked) own started (by kernel_rfl) Try.func8
    (ChangeSpec.witness6 (enc := enc) (C := Try.checked) false ⟨#[], #[.agg #[.int .i64 0, .int .i64 0, .int .i64 0, .int .i64 0, .int .i64 0, .bool false], .int .u8 0, .int .u8 0, .int .u8 0], []⟩ 8 (by kernel_rfl) (by kernel_rfl) (by kernel_rfl) (by kernel_rfl)) ?_
  intro W base args ds gs before hval0 hW hcnd hsz0 _
  have hval : ∀ (j : Nat) t v, Try.f8.params[j]? = some t → args[j]? = some v → Value.okWide Try.prog W .any base t v := hval0
  have hW' := hW
  obtain ⟨p, q, hA0, hV, rfl, hfz, hnd⟩ := hW
  have hA : DataW.TrodAll enc Try.prog W 0 (fun _ => true) true Try.f8.params.toList args.toList ds p := hA0
  rw [Try.params8] at hA hval
  obtain ⟨v0, vs0, d0, ds0, p0, q0, hargs, rfl, rfl, h0, r0⟩ := trodAll_cons hA
  obtain ⟨v1, vs1, d1, ds1, p1, q1, rfl, rfl, rfl, h1, r1⟩ := trodAll_cons r0
  obtain ⟨v2, vs2, d2, ds2, p2, q2, rfl, rfl, rfl, h2, r2⟩ := trodAll_cons r1
  obtain ⟨v3, vs3, d3, ds3, p3, q3, rfl, rfl, rfl, h3, r3⟩ := trodAll_cons r2
  obtain ⟨rfl, rfl, rfl⟩ := trodAll_nil r3
  obtain rfl : args = #[v0, v1, v2, v3] := by cases args; simp_all
  obtain ⟨rfl, rfl⟩ := trodVars_none hV
  have k0 := h0
  have lt0 : ∀ x ∈ p0, x.block < W.heap.size := by obtain ⟨m, hm⟩ := k0; exact DataW.trod_lt m _ _ _ hm
  obtain ⟨fuel0, hf0⟩ := h0
  obtain ⟨l100, rfl, hl0⟩ := agg_cells Try.underlying23 (by kernel_rfl : Try.prog.cellsOf 23 = 6) (hval 0 23 v0 rfl rfl)
  obtain ⟨e0_0, e0_1, e0_2, e0_3, e0_4, e0_5, rfl⟩ := list6 hl0
  have hf0 : DataW.trod enc Try.prog W 0 (fun _ => true) true fuel0 23 [e0_0, e0_1, e0_2, e0_3, e0_4, e0_5] = some _ := hf0
  obtain ⟨nfxhf0, fxhf0⟩ := trod_fields Try.underlying23 hf0
  obtain ⟨yfxhf0_0, tfxhf0_0⟩ := trod_field fxhf0 0 0 1 3 rfl rfl rfl (by kernel_rfl) [e0_0] rfl
  obtain ⟨a0_0, hq, _, wa0_0⟩ := DataW.trod_int Try.underlying3 tfxhf0_0
  obtain rfl := (List.cons.inj hq).1; clear hq
  obtain ⟨yfxhf0_1, tfxhf0_1⟩ := trod_field fxhf0 1 1 1 3 rfl rfl rfl (by kernel_rfl) [e0_1] rfl
  obtain ⟨a0_1, hq, _, wa0_1⟩ := DataW.trod_int Try.underlying3 tfxhf0_1
  obtain rfl := (List.cons.inj hq).1; clear hq
  obtain ⟨yfxhf0_2, tfxhf0_2⟩ := trod_field fxhf0 2 2 1 3 rfl rfl rfl (by kernel_rfl) [e0_2] rfl
  obtain ⟨a0_2, hq, _, wa0_2⟩ := DataW.trod_int Try.underlying3 tfxhf0_2
  obtain rfl := (List.cons.inj hq).1; clear hq
  obtain ⟨yfxhf0_3, tfxhf0_3⟩ := trod_field fxhf0 3 3 1 3 rfl rfl rfl (by kernel_rfl) [e0_3] rfl
  obtain ⟨a0_3, hq, _, wa0_3⟩ := DataW.trod_int Try.underlying3 tfxhf0_3
  obtain rfl := (List.cons.inj hq).1; clear hq
  obtain ⟨yfxhf0_4, tfxhf0_4⟩ := trod_field fxhf0 4 4 1 3 rfl rfl rfl (by kernel_rfl) [e0_4] rfl
  obtain ⟨a0_4, hq, _, wa0_4⟩ := DataW.trod_int Try.underlying3 tfxhf0_4
  obtain rfl := (List.cons.inj hq).1; clear hq
  obtain ⟨yfxhf0_5, tfxhf0_5⟩ := trod_field fxhf0 5 5 1 4 rfl rfl rfl (by kernel_rfl) [e0_5] rfl
  obtain ⟨a0_5, hq, _⟩ := DataW.trod_bool Try.underlying4 tfxhf0_5
  obtain rfl := (List.cons.inj hq).1; clear hq
  obtain ⟨a1, rfl, rfl, rfl, wa1⟩ := open_int Try.underlying5 (hval 1 5 v1 rfl rfl) h1
  obtain ⟨a2, rfl, rfl, rfl, wa2⟩ := open_int Try.underlying5 (hval 2 5 v2 rfl rfl) h2
  obtain ⟨a3, rfl, rfl, rfl, wa3⟩ := open_int Try.underlying5 (hval 3 5 v3 rfl rfl) h3
  clear hA0 hval0 hsz0
  refine (PHeadCuts.serinettelaw17_HeadCuts.walk Pure.HeadCuts a0_0 a0_1 a0_2 a0_3 a0_4 a0_5 a1 a2 a3 W wa0_0 wa0_1 wa0_2 wa0_3 wa0_4 wa1 wa2 wa3).mono fun e W' ⟨he, bel⟩ => ?_
  subst he
  exact ⟨_, rfl, _, _, _, [], _, [], hW', trodAll_mk1 (shut_bool Try.underlying4 _), (trodAll_cons_mk (Below.trod laidOut (by kernel_rfl) (of_decide_eq_true (by kernel_rfl)) k0 bel lt0) (trodAll_cons_mk (shut_int Try.underlying5 wa1) (trodAll_cons_mk (shut_int Try.underlying5 wa2) (trodAll_cons_mk (shut_int Try.underlying5 wa3) trodAll_mk0)))), rfl, bel.frame _, fun h => by cases h⟩
theorem over : Rows.headCutsRow.holds Try.pinned (OpenSpec.ofChange Rows.headCutsSpec) :=
  OpenClaim.holds_of_wide 8 Try.f8 rfl rfl rfl rfl rfl rfl rfl ⟨rfl, rfl, rfl, rfl, rfl⟩ rfl rfl rfl rfl rfl (by kernel_rfl) Try.func8 (by kernel_rfl)
    (of_decide_eq_true (by kernel_rfl)) (by unfold Func.isWrapper; first | (rw [if_pos (by decide +kernel)]; kernel_rfl) | (rw [if_neg (by decide +kernel)]; exact ⟨rfl, rfl⟩))
    (fun os started H enc _ => lifted os started H enc)
theorem proved : Rows.HeadCutsSaid := over
#print axioms proved
end Go.Proofs.Ytbohlcccdcilkaa.headCuts
namespace Go.Proofs.Ytbohlcccdcilkaa
/-- The row, under a short name, for the claim. -/
theorem headCuts_holds : Rows.HeadCutsSaid := headCuts.proved
end Go.Proofs.Ytbohlcccdcilkaa
