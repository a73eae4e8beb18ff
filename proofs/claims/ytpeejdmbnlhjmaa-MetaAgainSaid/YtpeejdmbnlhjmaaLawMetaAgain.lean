-- written by this session's program wip/lawrow.py: the session's own text
import Derived.Test.YtpeejdmbnlhjmaaRows
import Derived.Test.YtpeejdmbnlhjmaaPMetaAgainx3
import Derived.Test.YtpeejdmbnlhjmaaPureMetaAgain
import Derived.Test.YtpeejdmbnlhjmaaHRow
import Derived.WalkKit
import Derived.ProofKit
import Derived.OpenShut
import Derived.ShutString
import Derived.ChangeOld
import Derived.Below
import Derived.SizedLaws
namespace Go.Proofs.Ytpeejdmbnlhjmaa.metaAgain
open Go.ChangeShapes Go.WideShapes Go.ChangeAt Go.RowKit Go.Proofs.Ytpeejdmbnlhjmaa.R
open Go.ChangeMaps (open_string shut_string)
set_option linter.unusedVariables false
theorem own : ownKnob Try.prog.godebug = none := by kernel_rfl
theorem laidOut : laidOutB Try.prog = true := by kernel_rfl
set_option maxRecDepth 100000 in
theorem lifted (os : Os) (started : os.Started) (H : Type) (enc : TypeId × Value → H) :
    ReturnsInHanded {} Try.checked os 9 .any (Rows.metaAgainSpec.pre6 enc Try.prog Try.f9 Rows.metaAgainRow.domain false) (Rows.metaAgainSpec.post enc Try.prog Try.f9 false true false false) := by
  refine returnsInHanded_of_change_sized (C := Try.checked) own started (by kernel_rfl) Try.func9
    (ChangeSpec.witness6 (enc := enc) (C := Try.checked) false ⟨#[], #[.slice none 0 0, .slice none 0 0, .slice none 0 0, .int .u16 0], []⟩ 8 (by kernel_rfl) (by kernel_rfl) (by kernel_rfl) (by kernel_rfl)) ?_
  intro W base args ds gs before hval0 hW hcnd hsz0 _
  have hval : ∀ (j : Nat) t v, Try.f9.params[j]? = some t → args[j]? = some v → Value.okWide Try.prog W .any base t v := hval0
  have hW' := hW
  obtain ⟨p, q, hA0, hV, rfl, hfz, hnd⟩ := hW
  have hA : DataW.TrodAll enc Try.prog W 0 (fun _ => true) true Try.f9.params.toList args.toList ds p := hA0
  rw [Try.params9] at hA hval
  obtain ⟨v0, vs0, d0, ds0, p0, q0, hargs, rfl, rfl, h0, r0⟩ := trodAll_cons hA
  obtain ⟨v1, vs1, d1, ds1, p1, q1, rfl, rfl, rfl, h1, r1⟩ := trodAll_cons r0
  obtain ⟨v2, vs2, d2, ds2, p2, q2, rfl, rfl, rfl, h2, r2⟩ := trodAll_cons r1
  obtain ⟨v3, vs3, d3, ds3, p3, q3, rfl, rfl, rfl, h3, r3⟩ := trodAll_cons r2
  obtain ⟨rfl, rfl, rfl⟩ := trodAll_nil r3
  obtain rfl : args = #[v0, v1, v2, v3] := by cases args; simp_all
  obtain ⟨rfl, rfl⟩ := trodVars_none hV
  have k0 := h0
  have lt0 : ∀ x ∈ p0, x.block < W.heap.size := by obtain ⟨m, hm⟩ := k0; exact DataW.trod_lt m _ _ _ hm
  obtain ⟨fuel0, hf0⟩ := h0
  obtain ⟨a_0, b_0, c_0, rfl⟩ := okWide_slice Try.underlying67 (hval 0 67 v0 rfl rfl)
  have hf0 : DataW.trod enc Try.prog W 0 (fun _ => true) true fuel0 67 [.slice a_0 b_0 c_0] = some _ := hf0
  obtain ⟨l0, A0, c0, hq, hr0, hc0, hm0, hw0⟩ := rowpair_of_trod (q := 5) (fun p => (⟨p.1, p.2⟩ : PMetaAgain.S24)) (fun x : PMetaAgain.S24 => (x.f0, x.f1)) (fun _ => rfl) Try.underlying67 Try.underlying24 (by kernel_rfl) rfl rfl (by kernel_rfl) (by kernel_rfl) Try.underlying3 Try.underlying22 Try.underlying5 (by kernel_rfl) hf0
  obtain ⟨rfl, rfl, rfl⟩ := Value.slice.inj (List.cons.inj hq).1; clear hq
  have k1 := h1
  have lt1 : ∀ x ∈ p1, x.block < W.heap.size := by obtain ⟨m, hm⟩ := k1; exact DataW.trod_lt m _ _ _ hm
  obtain ⟨fuel1, hf1⟩ := h1
  obtain ⟨a_1, b_1, c_1, rfl⟩ := okWide_slice Try.underlying22 (hval 1 22 v1 rfl rfl)
  have hf1 : DataW.trod enc Try.prog W 0 (fun _ => true) true fuel1 22 [.slice a_1 b_1 c_1] = some _ := hf1
  obtain ⟨l1, A1, c1, hq, hr1, hc1, hm1, hw1⟩ := row_of_trod Try.underlying22 Try.underlying5 (by kernel_rfl) hf1
  obtain ⟨rfl, rfl, rfl⟩ := Value.slice.inj (List.cons.inj hq).1; clear hq
  have k2 := h2
  have lt2 : ∀ x ∈ p2, x.block < W.heap.size := by obtain ⟨m, hm⟩ := k2; exact DataW.trod_lt m _ _ _ hm
  obtain ⟨fuel2, hf2⟩ := h2
  obtain ⟨a_2, b_2, c_2, rfl⟩ := okWide_slice Try.underlying22 (hval 2 22 v2 rfl rfl)
  have hf2 : DataW.trod enc Try.prog W 0 (fun _ => true) true fuel2 22 [.slice a_2 b_2 c_2] = some _ := hf2
  obtain ⟨l2, A2, c2, hq, hr2, hc2, hm2, hw2⟩ := row_of_trod Try.underlying22 Try.underlying5 (by kernel_rfl) hf2
  obtain ⟨rfl, rfl, rfl⟩ := Value.slice.inj (List.cons.inj hq).1; clear hq
  obtain ⟨a3, rfl, rfl, rfl, wa3⟩ := open_int Try.underlying75 (hval 3 75 v3 rfl rfl) h3
  clear hA0 hval0 hsz0
  refine (PMetaAgain.serinettelaw18_MetaAgain.walk Pure.MetaAgain l0 l1 l2 a3 W a_0 c_0 hr0 hc0 hm0 hw0 a_1 c_1 hr1 hc1 hm1 hw1 a_2 c_2 hr2 hc2 hm2 hw2 wa3).mono fun e W' ⟨he, bel⟩ => ?_
  subst he
  exact ⟨_, rfl, _, _, _, [], _, [], hW', trodAll_mk1 (shut_bool Try.underlying4 _), (trodAll_cons_mk (Below.trod laidOut (by kernel_rfl) (of_decide_eq_true (by kernel_rfl)) k0 bel lt0) (trodAll_cons_mk (Below.trod laidOut (by kernel_rfl) (of_decide_eq_true (by kernel_rfl)) k1 bel lt1) (trodAll_cons_mk (Below.trod laidOut (by kernel_rfl) (of_decide_eq_true (by kernel_rfl)) k2 bel lt2) (trodAll_cons_mk (shut_int Try.underlying75 wa3) trodAll_mk0)))), rfl, bel.frame _, fun h => by cases h⟩
theorem over : Rows.metaAgainRow.holds Try.pinned (OpenSpec.ofChange Rows.metaAgainSpec) :=
  OpenClaim.holds_of_wide 9 Try.f9 rfl rfl rfl rfl rfl rfl rfl ⟨rfl, rfl, rfl, rfl, rfl⟩ rfl rfl rfl rfl rfl (by kernel_rfl) Try.func9 (by kernel_rfl)
    (of_decide_eq_true (by kernel_rfl)) (by unfold Func.isWrapper; first | (rw [if_pos (by decide +kernel)]; kernel_rfl) | (rw [if_neg (by decide +kernel)]; exact ⟨rfl, rfl⟩))
    (fun os started H enc _ => lifted os started H enc)
theorem proved : Rows.MetaAgainSaid := over
#print axioms proved
end Go.Proofs.Ytpeejdmbnlhjmaa.metaAgain
namespace Go.Proofs.Ytpeejdmbnlhjmaa
/-- The row, under a short name, for the claim. -/
theorem metaAgain_holds : Rows.MetaAgainSaid := metaAgain.proved
end Go.Proofs.Ytpeejdmbnlhjmaa
