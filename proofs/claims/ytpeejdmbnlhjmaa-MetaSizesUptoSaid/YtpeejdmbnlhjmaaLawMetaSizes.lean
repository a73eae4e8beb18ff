-- written by this session's program wip/lawrow.py: the session's own text
import Derived.Test.YtpeejdmbnlhjmaaRows
import Derived.Test.YtpeejdmbnlhjmaaPMetaSizesx2
import Derived.Test.YtpeejdmbnlhjmaaPureMetaSizes
import Derived.Test.YtpeejdmbnlhjmaaHRowU
import Derived.JoinedCond
import Derived.Deep.CondSized
import Derived.WalkKit
import Derived.ProofKit
import Derived.OpenShut
import Derived.ShutString
import Derived.ChangeOld
import Derived.Below
import Derived.SizedLaws
namespace Go.Proofs.Ytpeejdmbnlhjmaa.metaSizes
open Go.ChangeShapes Go.WideShapes Go.ChangeAt Go.RowKit Go.Proofs.Ytpeejdmbnlhjmaa.R
open Go.ChangeMaps (open_string shut_string)
set_option linter.unusedVariables false
theorem own : ownKnob Try.prog.godebug = none := by kernel_rfl
theorem laidOut : laidOutB Try.prog = true := by kernel_rfl
set_option maxRecDepth 100000 in
theorem lifted (os : Os) (started : os.Started) (H : Type) (enc : TypeId × Value → H) (F0 : Stop.Interp) :
    ReturnsInHanded {} Try.checked os 7 .any ((Rows.OpenSpec.upto Rows.metaSizesSpec).pre6 enc Try.prog Try.f7 Rows.metaSizesUptoRow.domain false) (((Rows.OpenSpec.upto Rows.metaSizesSpec).at F0).post enc Try.prog Try.f7 false true false false) := by
  refine returnsInHanded_of_cond_sized (C := Try.checked) (s := Rows.OpenSpec.upto Rows.metaSizesSpec) (k := Rows.uptoSmall) rfl own started (by kernel_rfl) Try.func7
    (OpenSpec.witness (enc := enc) (C := Try.checked) (s := Rows.OpenSpec.upto Rows.metaSizesSpec) (k := Rows.uptoSmall) rfl false ⟨#[], #[.slice none 0 0], []⟩ 8 (by kernel_rfl) (by kernel_rfl) (by kernel_rfl)
      (x := ([.nil], [], [])) (by kernel_rfl) (by kernel_rfl) (by kernel_rfl)) ?_
  intro W base args ds gs before hval0 hW hcnd hbulk0 hsz0 _
  have hval : ∀ (j : Nat) t v, Try.f7.params[j]? = some t → args[j]? = some v → Value.okWide Try.prog W .any base t v := hval0
  have hW' := hW
  obtain ⟨p, q, hA0, hV, rfl, hfz, hnd⟩ := hW
  have hA : DataW.TrodAll enc Try.prog W 0 (fun _ => true) true Try.f7.params.toList args.toList ds p := hA0
  rw [Try.params7] at hA hval
  obtain ⟨v0, vs0, d0, ds0, p0, q0, hargs, rfl, rfl, h0, r0⟩ := trodAll_cons hA
  obtain ⟨rfl, rfl, rfl⟩ := trodAll_nil r0
  obtain rfl : args = #[v0] := by cases args; simp_all
  obtain ⟨rfl, rfl⟩ := trodVars_none hV
  have k0 := h0
  have lt0 : ∀ x ∈ p0, x.block < W.heap.size := by obtain ⟨m, hm⟩ := k0; exact DataW.trod_lt m _ _ _ hm
  obtain ⟨fuel0, hf0⟩ := h0
  obtain ⟨a_0, b_0, c_0, rfl⟩ := okWide_slice Try.underlying67 (hval 0 67 v0 rfl rfl)
  have hf0 : DataW.trod enc Try.prog W 0 (fun _ => true) true fuel0 67 [.slice a_0 b_0 c_0] = some _ := hf0
  obtain ⟨l0, A0, c0, hq, hr0, hc0, hm0, hw0, hu0⟩ := rowpair_upto (q := 5) (fun p => (⟨p.1, p.2⟩ : PMetaSizes.S24)) (fun x : PMetaSizes.S24 => (x.f0, x.f1)) (fun _ => rfl) Try.underlying67 Try.underlying24 (by kernel_rfl) rfl rfl (by kernel_rfl) (by kernel_rfl) Try.underlying3 Try.underlying22 Try.underlying5 (by kernel_rfl) hf0
  obtain ⟨rfl, rfl, rfl⟩ := Value.slice.inj (List.cons.inj hq).1; clear hq
  clear hA0 hval0 hsz0
  have hb0 : Rows.uptoBulkAll ([d0] ++ [] ++ []) ≤ 1048576 := of_decide_eq_true hbulk0
  have hu1 := Nat.le_trans hu0 (Nat.le_trans (by show Rows.uptoBulk d0 ≤ Rows.uptoBulkAll ([d0] ++ [] ++ []); rw [List.append_nil, List.append_nil, Rows.uptoBulkAll, Rows.uptoBulkAll]; exact Nat.le_refl _) hb0)
  refine (PMetaSizes.serinettelaw18_MetaSizes.walk Pure.MetaSizes l0 W a_0 c_0 hr0 hc0 hm0 hw0 hu1).mono fun e W' ⟨he, bel⟩ => ?_
  subst he
  exact ⟨_, rfl, _, _, _, [], _, [], hW', trodAll_mk1 (shut_bool Try.underlying4 _), (trodAll_cons_mk (Below.trod laidOut (by kernel_rfl) (of_decide_eq_true (by kernel_rfl)) k0 bel lt0) trodAll_mk0), rfl, bel.frame _, fun h => by cases h⟩
theorem over : Rows.metaSizesUptoRow.holds Try.pinned (Rows.OpenSpec.upto Rows.metaSizesSpec) :=
  OpenClaim.holds_of_cond 7 Try.f7 rfl rfl rfl rfl rfl rfl rfl ⟨rfl, rfl, rfl, rfl, rfl⟩ rfl rfl rfl rfl rfl (by kernel_rfl) Try.func7 (by kernel_rfl)
    (of_decide_eq_true (by kernel_rfl)) (by unfold Func.isWrapper; first | (rw [if_pos (by decide +kernel)]; kernel_rfl) | (rw [if_neg (by decide +kernel)]; exact ⟨rfl, rfl⟩))
    (fun os started H enc _ F0 => lifted os started H enc F0)
theorem proved : Rows.MetaSizesUptoSaid := over
#print axioms proved
end Go.Proofs.Ytpeejdmbnlhjmaa.metaSizes
namespace Go.Proofs.Ytpeejdmbnlhjmaa
/-- The row, under a short name, for the claim. -/
theorem metaSizes_holds : Rows.MetaSizesUptoSaid := metaSizes.proved
end Go.Proofs.Ytpeejdmbnlhjmaa
