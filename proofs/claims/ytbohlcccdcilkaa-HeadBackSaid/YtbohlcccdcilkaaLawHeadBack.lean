-- written by this session's program wip/lawrow.py: the session's own text
import Derived.Test.YtbohlcccdcilkaaRows
import Derived.Test.YtbohlcccdcilkaaPHeadBackx2
import Derived.Test.YtbohlcccdcilkaaPureHeadBack
import Derived.Test.YtbohlcccdcilkaaHRow
import Derived.WalkKit
import Derived.ProofKit
import Derived.OpenShut
import Derived.ShutString
import Derived.ChangeOld
import Derived.Below
import Derived.SizedLaws
namespace Go.Proofs.Ytbohlcccdcilkaa.headBack
open Go.ChangeShapes Go.WideShapes Go.ChangeAt Go.RowKit Go.Proofs.Ytbohlcccdcilkaa.R
open Go.ChangeMaps (open_string shut_string)
set_option linter.unusedVariables false
theorem own : ownKnob Try.prog.godebug = none := by kernel_rfl
theorem laidOut : laidOutB Try.prog = true := by kernel_rfl
set_option maxRecDepth 100000 in
theorem lifted (os : Os) (started : os.Started) (H : Type) (enc : TypeId × Value → H) :
    ReturnsInHanded {} Try.checked os 7 .any (Rows.headBackSpec.pre6 enc Try.prog Try.f7 Rows.headBackRow.domain false) (Rows.headBackSpec.post enc Try.prog Try.f7 false true false false) := by
  refine returnsInHanded_of_change_sized (C := Try.checked) own started (by kernel_rfl) Try.func7
    (ChangeSpec.witness6 (enc := enc) (C := Try.checked) false ⟨#[], #[.agg #[.int .i64 0, .int .i64 0, .int .i64 0, .int .i64 0, .int .i64 0, .bool false], .slice none 0 0], []⟩ 8 (by kernel_rfl) (by kernel_rfl) (by kernel_rfl) (by kernel_rfl)) ?_
  intro W base args ds gs before hval0 hW hcnd hsz0 _
  have hval : ∀ (j : Nat) t v, Try.f7.params[j]? = some t → args[j]? = some v → Value.okWide Try.prog W .any base t v := hval0
  have hW' := hW
  obtain ⟨p, q, hA0, hV, rfl, hfz, hnd⟩ := hW
  have hA : DataW.TrodAll enc Try.prog W 0 (fun _ => true) true Try.f7.params.toList args.toList ds p := hA0
  rw [Try.params7] at hA hval
  obtain ⟨v0, vs0, d0, ds0, p0, q0, hargs, rfl, rfl, h0, r0⟩ := trodAll_cons hA
  obtain ⟨v1, vs1, d1, ds1, p1, q1, rfl, rfl, rfl, h1, r1⟩ := trodAll_cons r0
  obtain ⟨rfl, rfl, rfl⟩ := trodAll_nil r1
  obtain rfl : args = #[v0, v1] := by cases args; simp_all
  obtain ⟨rfl, rfl⟩ := trodVars_none hV
  have k0 := h0
  have lt0 : ∀ x ∈ p0, x.block < W.heap.size := by obtain ⟨m, hm⟩ := k0; exact DataW.trod_lt m _ _ _ hm
  obtain ⟨fuel0, hf0⟩ := h0
  obtain ⟨l100, rfl, hl0⟩ := agg_cells Try.underlying23 (by kernel_rfl : Try.prog.cellsOf 23 = 6) (hval 0 23 v0 rfl rfl)
  obtain ⟨e0_0, e0_1, e0_2, e0_3, e0_4, e0_5, rfl⟩ := list6 hl0
  have hf0 : DataW.trod enc Try.prog W 0 (fun _ => true) true fuel0 23 [e0_0, e0_1, e0_2, e0_3, e0_4, e0_5] = some _ := hf0
  obtain ⟨nfxhf0, fxhf0⟩ := trod_fields Try.underlying23 hf0
  obtain ⟨yfxhf0_0, tfxhf0_0⟩ := trod_field fxhf0 0 0 1 3 rfl rfl rfl (by kernel_rfl) [e0_0] rfl
  obtain ⟨a0_0, hq, _, wa0_0⟩ := DataW.trod_int Try.underlying3 tfxhf0_0
  obtain rfl := (List.cons.inj hq).1; clear hq
  obtain ⟨yfxhf0_1, tfxhf0_1⟩ := trod_field fxhf0 1 1 1 3 rfl rfl rfl (by kernel_rfl) [e0_1] rfl
  obtain ⟨a0_1, hq, _, wa0_1⟩ := DataW.trod_int Try.underlying3 tfxhf0_1
  obtain rfl := (List.cons.inj hq).1; clear hq
  obtain ⟨yfxhf0_2, tfxhf0_2⟩ := trod_field fxhf0 2 2 1 3 rfl rfl rfl (by kernel_rfl) [e0_2] rfl
  obtain ⟨a0_2, hq, _, wa0_2⟩ := DataW.trod_int Try.underlying3 tfxhf0_2
  obtain rfl := (List.cons.inj hq).1; clear hq
  obtain ⟨yfxhf0_3, tfxhf0_3⟩ := trod_field fxhf0 3 3 1 3 rfl rfl rfl (by kernel_rfl) [e0_3] rfl
  obtain ⟨a0_3, hq, _, wa0_3⟩ := DataW.trod_int Try.underlying3 tfxhf0_3
  obtain rfl := (List.cons.inj hq).1; clear hq
  obtain ⟨yfxhf0_4, tfxhf0_4⟩ := trod_field fxhf0 4 4 1 3 rfl rfl rfl (by kernel_rfl) [e0_4] rfl
  obtain ⟨a0_4, hq, _, wa0_4⟩ := DataW.trod_int Try.underlying3 tfxhf0_4
  obtain rfl := (List.cons.inj hq).1; clear hq
  obtain ⟨yfxhf0_5, tfxhf0_5⟩ := trod_field fxhf0 5 5 1 4 rfl rfl rfl (by kernel_rfl) [e0_5] rfl
  obtain ⟨a0_5, hq, _⟩ := DataW.trod_bool Try.underlying4 tfxhf0_5
  obtain rfl := (List.cons.inj hq).1; clear hq
  have k1 := h1
  have lt1 : ∀ x ∈ p1, x.block < W.heap.size := by obtain ⟨m, hm⟩ := k1; exact DataW.trod_lt m _ _ _ hm
  obtain ⟨fuel1, hf1⟩ := h1
  obtain ⟨a_1, b_1, c_1, rfl⟩ := okWide_slice Try.underlying25 (hval 1 25 v1 rfl rfl)
  have hf1 : DataW.trod enc Try.prog W 0 (fun _ => true) true fuel1 25 [.slice a_1 b_1 c_1] = some _ := hf1
  obtain ⟨l1, A1, c1, hq, hr1, hc1, hm1, hw1⟩ := row_of_trod Try.underlying25 Try.underlying5 (by kernel_rfl) hf1
  obtain ⟨rfl, rfl, rfl⟩ := Value.slice.inj (List.cons.inj hq).1; clear hq
  clear hA0 hval0 hsz0
  refine (PHeadBack.serinettelaw17_HeadBack.walk Pure.HeadBack a0_0 a0_1 a0_2 a0_3 a0_4 a0_5 l1 W wa0_0 wa0_1 wa0_2 wa0_3 wa0_4 a_1 c_1 hr1 hc1 hm1 hw1).mono fun e W' ⟨he, bel⟩ => ?_
  subst he
  exact ⟨_, rfl, _, _, _, [], _, [], hW', trodAll_mk1 (shut_bool Try.underlying4 _), (trodAll_cons_mk (Below.trod laidOut (by kernel_rfl) (of_decide_eq_true (by kernel_rfl)) k0 bel lt0) (trodAll_cons_mk (Below.trod laidOut (by kernel_rfl) (of_decide_eq_true (by kernel_rfl)) k1 bel lt1) trodAll_mk0)), rfl, bel.frame _, fun h => by cases h⟩
theorem over : Rows.headBackRow.holds Try.pinned (OpenSpec.ofChange Rows.headBackSpec) :=
  OpenClaim.holds_of_wide 7 Try.f7 rfl rfl rfl rfl rfl rfl rfl ⟨rfl, rfl, rfl, rfl, rfl⟩ rfl rfl rfl rfl rfl (by kernel_rfl) Try.func7 (by kernel_rfl)
    (of_decide_eq_true (by kernel_rfl)) (by unfold Func.isWrapper; first | (rw [if_pos (by decide +kernel)]; kernel_rfl) | (rw [if_neg (by decide +kernel)]; exact ⟨rfl, rfl⟩))
    (fun os started H enc _ => lifted os started H enc)
theorem proved : Rows.HeadBackSaid := over
#print axioms proved
end Go.Proofs.Ytbohlcccdcilkaa.headBack
namespace Go.Proofs.Ytbohlcccdcilkaa
/-- The row, under a short name, for the claim. -/
theorem headBack_holds : Rows.HeadBackSaid := headBack.proved
end Go.Proofs.Ytbohlcccdcilkaa
