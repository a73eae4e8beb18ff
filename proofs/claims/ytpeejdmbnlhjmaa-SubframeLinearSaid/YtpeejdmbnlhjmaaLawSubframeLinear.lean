-- written by this session's program wip/lawrow.py: the session's own text
import Derived.Test.YtpeejdmbnlhjmaaRows
import Derived.Test.YtpeejdmbnlhjmaaPSubframeLinearx7
import Derived.Test.YtpeejdmbnlhjmaaPureSubframeLinear
import Derived.Test.YtpeejdmbnlhjmaaHRow
import Derived.WalkKit
import Derived.ProofKit
import Derived.OpenShut
import Derived.ShutString
import Derived.ChangeOld
import Derived.Below
import Derived.SizedLaws
namespace Go.Proofs.Ytpeejdmbnlhjmaa.subframeLinear
open Go.ChangeShapes Go.WideShapes Go.ChangeAt Go.RowKit Go.Proofs.Ytpeejdmbnlhjmaa.R
open Go.ChangeMaps (open_string shut_string)
set_option linter.unusedVariables false
theorem own : ownKnob Try.prog.godebug = none := by kernel_rfl
theorem laidOut : laidOutB Try.prog = true := by kernel_rfl
set_option maxRecDepth 100000 in
theorem lifted (os : Os) (started : os.Started) (H : Type) (enc : TypeId × Value → H) :
    ReturnsInHanded {} Try.checked os 11 .any (Rows.subframeLinearSpec.pre6 enc Try.prog Try.f11 Rows.subframeLinearRow.domain false) (Rows.subframeLinearSpec.post enc Try.prog Try.f11 false true false false) := by
  refine returnsInHanded_of_change_sized (C := Try.checked) own started (by kernel_rfl) Try.func11
    (ChangeSpec.witness6 (enc := enc) (C := Try.checked) false ⟨#[], #[.slice none 0 0, .int .u8 0, .agg #[.bool false, .int .i64 0, .slice none 0 0]], []⟩ 8 (by kernel_rfl) (by kernel_rfl) (by kernel_rfl) (by kernel_rfl)) ?_
  intro W base args ds gs before hval0 hW hcnd hsz0 _
  have hval : ∀ (j : Nat) t v, Try.f11.params[j]? = some t → args[j]? = some v → Value.okWide Try.prog W .any base t v := hval0
  have hW' := hW
  obtain ⟨p, q, hA0, hV, rfl, hfz, hnd⟩ := hW
  have hA : DataW.TrodAll enc Try.prog W 0 (fun _ => true) true Try.f11.params.toList args.toList ds p := hA0
  rw [Try.params11] at hA hval
  obtain ⟨v0, vs0, d0, ds0, p0, q0, hargs, rfl, rfl, h0, r0⟩ := trodAll_cons hA
  obtain ⟨v1, vs1, d1, ds1, p1, q1, rfl, rfl, rfl, h1, r1⟩ := trodAll_cons r0
  obtain ⟨v2, vs2, d2, ds2, p2, q2, rfl, rfl, rfl, h2, r2⟩ := trodAll_cons r1
  obtain ⟨rfl, rfl, rfl⟩ := trodAll_nil r2
  obtain rfl : args = #[v0, v1, v2] := by cases args; simp_all
  obtain ⟨rfl, rfl⟩ := trodVars_none hV
  have k0 := h0
  have lt0 : ∀ x ∈ p0, x.block < W.heap.size := by obtain ⟨m, hm⟩ := k0; exact DataW.trod_lt m _ _ _ hm
  obtain ⟨fuel0, hf0⟩ := h0
  obtain ⟨a_0, b_0, c_0, rfl⟩ := okWide_slice Try.underlying90 (hval 0 90 v0 rfl rfl)
  have hf0 : DataW.trod enc Try.prog W 0 (fun _ => true) true fuel0 90 [.slice a_0 b_0 c_0] = some _ := hf0
  obtain ⟨l0, A0, c0, hq, hr0, hc0, hm0, hw0⟩ := row_of_trod Try.underlying90 Try.underlying21 (by kernel_rfl) hf0
  obtain ⟨rfl, rfl, rfl⟩ := Value.slice.inj (List.cons.inj hq).1; clear hq
  obtain ⟨a1, rfl, rfl, rfl, wa1⟩ := open_int Try.underlying5 (hval 1 5 v1 rfl rfl) h1
  have k2 := h2
  have lt2 : ∀ x ∈ p2, x.block < W.heap.size := by obtain ⟨m, hm⟩ := k2; exact DataW.trod_lt m _ _ _ hm
  obtain ⟨fuel2, hf2⟩ := h2
  obtain ⟨l102, rfl, hl2⟩ := agg_cells Try.underlying85 (by kernel_rfl : Try.prog.cellsOf 85 = 3) (hval 2 85 v2 rfl rfl)
  obtain ⟨e2_0, e2_1, e2_2, rfl⟩ := list3 hl2
  have hf2 : DataW.trod enc Try.prog W 0 (fun _ => true) true fuel2 85 [e2_0, e2_1, e2_2] = some _ := hf2
  obtain ⟨nfxhf2, fxhf2⟩ := trod_fields Try.underlying85 hf2
  obtain ⟨yfxhf2_0, tfxhf2_0⟩ := trod_field fxhf2 0 0 1 4 rfl rfl rfl (by kernel_rfl) [e2_0] rfl
  obtain ⟨a2_0, hq, _⟩ := DataW.trod_bool Try.underlying4 tfxhf2_0
  obtain rfl := (List.cons.inj hq).1; clear hq
  obtain ⟨yfxhf2_1, tfxhf2_1⟩ := trod_field fxhf2 1 1 1 3 rfl rfl rfl (by kernel_rfl) [e2_1] rfl
  obtain ⟨a2_1, hq, _, wa2_1⟩ := DataW.trod_int Try.underlying3 tfxhf2_1
  obtain rfl := (List.cons.inj hq).1; clear hq
  obtain ⟨yfxhf2_2, tfxhf2_2⟩ := trod_field fxhf2 2 2 1 83 rfl rfl rfl (by kernel_rfl) [e2_2] rfl
  obtain ⟨l2_2, A2_2, c2_2, hq, hr2_2, hc2_2, hm2_2, hw2_2⟩ := rowib_of_trod (fun p => (⟨p.1, p.2⟩ : PSubframeLinear.S172)) (fun x : PSubframeLinear.S172 => (x.f0, x.f1)) (fun _ => rfl) Try.underlying83 Try.underlying172 (by kernel_rfl) rfl rfl (by kernel_rfl) (by kernel_rfl) Try.underlying3 Try.underlying4 tfxhf2_2
  obtain rfl := (List.cons.inj hq).1; clear hq
  clear hA0 hval0 hsz0
  refine (PSubframeLinear.serinettelaw16_SubframeLinear.walk Pure.SubframeLinear l0 a1 a2_0 a2_1 l2_2 W a_0 c_0 hr0 hc0 hm0 hw0 wa1 wa2_1 A2_2 c2_2 hr2_2 hc2_2 hm2_2 hw2_2).mono fun e W' ⟨he, bel⟩ => ?_
  subst he
  exact ⟨_, rfl, _, _, _, [], _, [], hW', trodAll_mk1 (shut_bool Try.underlying4 _), (trodAll_cons_mk (Below.trod laidOut (by kernel_rfl) (of_decide_eq_true (by kernel_rfl)) k0 bel lt0) (trodAll_cons_mk (shut_int Try.underlying5 wa1) (trodAll_cons_mk (Below.trod laidOut (by kernel_rfl) (of_decide_eq_true (by kernel_rfl)) k2 bel lt2) trodAll_mk0))), rfl, bel.frame _, fun h => by cases h⟩
theorem over : Rows.subframeLinearRow.holds Try.pinned (OpenSpec.ofChange Rows.subframeLinearSpec) :=
  OpenClaim.holds_of_wide 11 Try.f11 rfl rfl rfl rfl rfl rfl rfl ⟨rfl, rfl, rfl, rfl, rfl⟩ rfl rfl rfl rfl rfl (by kernel_rfl) Try.func11 (by kernel_rfl)
    (of_decide_eq_true (by kernel_rfl)) (by unfold Func.isWrapper; first | (rw [if_pos (by decide +kernel)]; kernel_rfl) | (rw [if_neg (by decide +kernel)]; exact ⟨rfl, rfl⟩))
    (fun os started H enc _ => lifted os started H enc)
theorem proved : Rows.SubframeLinearSaid := over
#print axioms proved
end Go.Proofs.Ytpeejdmbnlhjmaa.subframeLinear
namespace Go.Proofs.Ytpeejdmbnlhjmaa
/-- The row, under a short name, for the claim. -/
theorem subframeLinear_holds : Rows.SubframeLinearSaid := subframeLinear.proved
end Go.Proofs.Ytpeejdmbnlhjmaa
