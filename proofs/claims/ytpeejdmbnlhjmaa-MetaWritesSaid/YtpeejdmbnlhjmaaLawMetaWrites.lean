-- written by this session's program wip/lawrow.py: the session's own text
import Derived.Test.YtpeejdmbnlhjmaaRows
import Derived.Test.YtpeejdmbnlhjmaaPMetaWritesx8
import Derived.Test.YtpeejdmbnlhjmaaPureMetaWrites
import Derived.Test.YtpeejdmbnlhjmaaHRow
import Derived.WalkKit
import Derived.ProofKit
import Derived.OpenShut
import Derived.ShutString
import Derived.ChangeOld
import Derived.Below
import Derived.SizedLaws
namespace Go.Proofs.Ytpeejdmbnlhjmaa.metaWrites
open Go.ChangeShapes Go.WideShapes Go.ChangeAt Go.RowKit Go.Proofs.Ytpeejdmbnlhjmaa.R
open Go.ChangeMaps (open_string shut_string)
set_option linter.unusedVariables false
theorem own : ownKnob Try.prog.godebug = none := by kernel_rfl
theorem laidOut : laidOutB Try.prog = true := by kernel_rfl
set_option maxHeartbeats 8000000 in
set_option maxRecDepth 100000 in
theorem lifted (os : Os) (started : os.Started) (H : Type) (enc : TypeId × Value → H) :
    ReturnsInHanded {} Try.checked os 5 .any (Rows.metaWritesSpec.pre6 enc Try.prog Try.f5 Rows.metaWritesRow.domain false) (Rows.metaWritesSpec.post enc Try.prog Try.f5 false true false false) := by
  refine returnsInHanded_of_change_sized (C := Try.checked) own started (by kernel_rfl) Try.func5
    (ChangeSpec.witness6 (enc := enc) (C := Try.checked) false ⟨#[], #[.agg #[.int .i64 0, .int .i64 0, .int .i64 0, .int .i64 0, .int .i64 0, .int .i64 0, .int .i64 0, .int .i64 0, .int .u8 0, .int .u8 0, .int .u8 0, .int .u8 0, .int .u8 0, .int .u8 0, .int .u8 0, .int .u8 0, .int .u8 0, .int .u8 0, .int .u8 0, .int .u8 0, .int .u8 0, .int .u8 0, .int .u8 0, .int .u8 0], .int .i64 0, .slice none 0 0, .agg #[.string ⟨#[]⟩, .slice none 0 0], .agg #[.int .i64 0, .slice none 0 0]], []⟩ 8 (by kernel_rfl) (by kernel_rfl) (by kernel_rfl) (by kernel_rfl)) ?_
  intro W base args ds gs before hval0 hW hcnd hsz0 _
  have hval : ∀ (j : Nat) t v, Try.f5.params[j]? = some t → args[j]? = some v → Value.okWide Try.prog W .any base t v := hval0
  have hW' := hW
  obtain ⟨p, q, hA0, hV, rfl, hfz, hnd⟩ := hW
  have hA : DataW.TrodAll enc Try.prog W 0 (fun _ => true) true Try.f5.params.toList args.toList ds p := hA0
  rw [Try.params5] at hA hval
  obtain ⟨v0, vs0, d0, ds0, p0, q0, hargs, rfl, rfl, h0, r0⟩ := trodAll_cons hA
  obtain ⟨v1, vs1, d1, ds1, p1, q1, rfl, rfl, rfl, h1, r1⟩ := trodAll_cons r0
  obtain ⟨v2, vs2, d2, ds2, p2, q2, rfl, rfl, rfl, h2, r2⟩ := trodAll_cons r1
  obtain ⟨v3, vs3, d3, ds3, p3, q3, rfl, rfl, rfl, h3, r3⟩ := trodAll_cons r2
  obtain ⟨v4, vs4, d4, ds4, p4, q4, rfl, rfl, rfl, h4, r4⟩ := trodAll_cons r3
  obtain ⟨rfl, rfl, rfl⟩ := trodAll_nil r4
  obtain rfl : args = #[v0, v1, v2, v3, v4] := by cases args; simp_all
  obtain ⟨rfl, rfl⟩ := trodVars_none hV
  have k0 := h0
  have lt0 : ∀ x ∈ p0, x.block < W.heap.size := by obtain ⟨m, hm⟩ := k0; exact DataW.trod_lt m _ _ _ hm
  obtain ⟨fuel0, hf0⟩ := h0
  obtain ⟨l100, rfl, hl0⟩ := agg_cells Try.underlying31 (by kernel_rfl : Try.prog.cellsOf 31 = 24) (hval 0 31 v0 rfl rfl)
  obtain ⟨e0_0, e0_1, e0_2, e0_3, e0_4, e0_5, e0_6, e0_7, e0_8, e0_9, e0_10, e0_11, e0_12, e0_13, e0_14, e0_15, e0_16, e0_17, e0_18, e0_19, e0_20, e0_21, e0_22, e0_23, rfl⟩ := list24 hl0
  have hf0 : DataW.trod enc Try.prog W 0 (fun _ => true) true fuel0 31 [e0_0, e0_1, e0_2, e0_3, e0_4, e0_5, e0_6, e0_7, e0_8, e0_9, e0_10, e0_11, e0_12, e0_13, e0_14, e0_15, e0_16, e0_17, e0_18, e0_19, e0_20, e0_21, e0_22, e0_23] = some _ := hf0
  obtain ⟨nfxhf0, fxhf0⟩ := trod_fields Try.underlying31 hf0
  obtain ⟨yfxhf0_0, tfxhf0_0⟩ := trod_field fxhf0 0 0 1 3 rfl rfl rfl (by kernel_rfl) [e0_0] rfl
  obtain ⟨a0_0, hq, _, wa0_0⟩ := DataW.trod_int Try.underlying3 tfxhf0_0
  obtain rfl := (List.cons.inj hq).1; clear hq
  obtain ⟨yfxhf0_1, tfxhf0_1⟩ := trod_field fxhf0 1 1 1 3 rfl rfl rfl (by kernel_rfl) [e0_1] rfl
  obtain ⟨a0_1, hq, _, wa0_1⟩ := DataW.trod_int Try.underlying3 tfxhf0_1
  obtain rfl := (List.cons.inj hq).1; clear hq
  obtain ⟨yfxhf0_2, tfxhf0_2⟩ := trod_field fxhf0 2 2 1 3 rfl rfl rfl (by kernel_rfl) [e0_2] rfl
  obtain ⟨a0_2, hq, _, wa0_2⟩ := DataW.trod_int Try.underlying3 tfxhf0_2
  obtain rfl := (List.cons.inj hq).1; clear hq
  obtain ⟨yfxhf0_3, tfxhf0_3⟩ := trod_field fxhf0 3 3 1 3 rfl rfl rfl (by kernel_rfl) [e0_3] rfl
  obtain ⟨a0_3, hq, _, wa0_3⟩ := DataW.trod_int Try.underlying3 tfxhf0_3
  obtain rfl := (List.cons.inj hq).1; clear hq
  obtain ⟨yfxhf0_4, tfxhf0_4⟩ := trod_field fxhf0 4 4 1 3 rfl rfl rfl (by kernel_rfl) [e0_4] rfl
  obtain ⟨a0_4, hq, _, wa0_4⟩ := DataW.trod_int Try.underlying3 tfxhf0_4
  obtain rfl := (List.cons.inj hq).1; clear hq
  obtain ⟨yfxhf0_5, tfxhf0_5⟩ := trod_field fxhf0 5 5 1 3 rfl rfl rfl (by kernel_rfl) [e0_5] rfl
  obtain ⟨a0_5, hq, _, wa0_5⟩ := DataW.trod_int Try.underlying3 tfxhf0_5
  obtain rfl := (List.cons.inj hq).1; clear hq
  obtain ⟨yfxhf0_6, tfxhf0_6⟩ := trod_field fxhf0 6 6 1 3 rfl rfl rfl (by kernel_rfl) [e0_6] rfl
  obtain ⟨a0_6, hq, _, wa0_6⟩ := DataW.trod_int Try.underlying3 tfxhf0_6
  obtain rfl := (List.cons.inj hq).1; clear hq
  obtain ⟨yfxhf0_7, tfxhf0_7⟩ := trod_field fxhf0 7 7 1 3 rfl rfl rfl (by kernel_rfl) [e0_7] rfl
  obtain ⟨a0_7, hq, _, wa0_7⟩ := DataW.trod_int Try.underlying3 tfxhf0_7
  obtain rfl := (List.cons.inj hq).1; clear hq
  obtain ⟨yfxhf0_8, tfxhf0_8⟩ := trod_field fxhf0 8 8 16 29 rfl rfl rfl (by kernel_rfl) [e0_8, e0_9, e0_10, e0_11, e0_12, e0_13, e0_14, e0_15, e0_16, e0_17, e0_18, e0_19, e0_20, e0_21, e0_22, e0_23] rfl
  obtain ⟨xsartfxhf0_8, martfxhf0_8, _, _, _, hlartfxhf0_8, heartfxhf0_8⟩ := DataW.trod_array Try.underlying29 tfxhf0_8
  have ceartfxhf0_8 : Try.prog.cellsOf 5 = 1 := by kernel_rfl
  rw [ceartfxhf0_8] at heartfxhf0_8
  obtain ⟨gartfxhf0_8_0, tartfxhf0_8_0⟩ : ∃ z, DataW.trod enc Try.prog W 0 (fun _ => true) true martfxhf0_8 5 [e0_8] = some z := ⟨xsartfxhf0_8[0], (heartfxhf0_8 0 (by decide)).trans (List.getElem?_eq_getElem (by omega))⟩
  obtain ⟨a0_8, hq, _, wa0_8⟩ := DataW.trod_int Try.underlying5 tartfxhf0_8_0
  obtain rfl := (List.cons.inj hq).1; clear hq
  obtain ⟨gartfxhf0_8_1, tartfxhf0_8_1⟩ : ∃ z, DataW.trod enc Try.prog W 0 (fun _ => true) true martfxhf0_8 5 [e0_9] = some z := ⟨xsartfxhf0_8[1], (heartfxhf0_8 1 (by decide)).trans (List.getElem?_eq_getElem (by omega))⟩
  obtain ⟨a0_9, hq, _, wa0_9⟩ := DataW.trod_int Try.underlying5 tartfxhf0_8_1
  obtain rfl := (List.cons.inj hq).1; clear hq
  obtain ⟨gartfxhf0_8_2, tartfxhf0_8_2⟩ : ∃ z, DataW.trod enc Try.prog W 0 (fun _ => true) true martfxhf0_8 5 [e0_10] = some z := ⟨xsartfxhf0_8[2], (heartfxhf0_8 2 (by decide)).trans (List.getElem?_eq_getElem (by omega))⟩
  obtain ⟨a0_10, hq, _, wa0_10⟩ := DataW.trod_int Try.underlying5 tartfxhf0_8_2
  obtain rfl := (List.cons.inj hq).1; clear hq
  obtain ⟨gartfxhf0_8_3, tartfxhf0_8_3⟩ : ∃ z, DataW.trod enc Try.prog W 0 (fun _ => true) true martfxhf0_8 5 [e0_11] = some z := ⟨xsartfxhf0_8[3], (heartfxhf0_8 3 (by decide)).trans (List.getElem?_eq_getElem (by omega))⟩
  obtain ⟨a0_11, hq, _, wa0_11⟩ := DataW.trod_int Try.underlying5 tartfxhf0_8_3
  obtain rfl := (List.cons.inj hq).1; clear hq
  obtain ⟨gartfxhf0_8_4, tartfxhf0_8_4⟩ : ∃ z, DataW.trod enc Try.prog W 0 (fun _ => true) true martfxhf0_8 5 [e0_12] = some z := ⟨xsartfxhf0_8[4], (heartfxhf0_8 4 (by decide)).trans (List.getElem?_eq_getElem (by omega))⟩
  obtain ⟨a0_12, hq, _, wa0_12⟩ := DataW.trod_int Try.underlying5 tartfxhf0_8_4
  obtain rfl := (List.cons.inj hq).1; clear hq
  obtain ⟨gartfxhf0_8_5, tartfxhf0_8_5⟩ : ∃ z, DataW.trod enc Try.prog W 0 (fun _ => true) true martfxhf0_8 5 [e0_13] = some z := ⟨xsartfxhf0_8[5], (heartfxhf0_8 5 (by decide)).trans (List.getElem?_eq_getElem (by omega))⟩
  obtain ⟨a0_13, hq, _, wa0_13⟩ := DataW.trod_int Try.underlying5 tartfxhf0_8_5
  obtain rfl := (List.cons.inj hq).1; clear hq
  obtain ⟨gartfxhf0_8_6, tartfxhf0_8_6⟩ : ∃ z, DataW.trod enc Try.prog W 0 (fun _ => true) true martfxhf0_8 5 [e0_14] = some z := ⟨xsartfxhf0_8[6], (heartfxhf0_8 6 (by decide)).trans (List.getElem?_eq_getElem (by omega))⟩
  obtain ⟨a0_14, hq, _, wa0_14⟩ := DataW.trod_int Try.underlying5 tartfxhf0_8_6
  obtain rfl := (List.cons.inj hq).1; clear hq
  obtain ⟨gartfxhf0_8_7, tartfxhf0_8_7⟩ : ∃ z, DataW.trod enc Try.prog W 0 (fun _ => true) true martfxhf0_8 5 [e0_15] = some z := ⟨xsartfxhf0_8[7], (heartfxhf0_8 7 (by decide)).trans (List.getElem?_eq_getElem (by omega))⟩
  obtain ⟨a0_15, hq, _, wa0_15⟩ := DataW.trod_int Try.underlying5 tartfxhf0_8_7
  obtain rfl := (List.cons.inj hq).1; clear hq
  obtain ⟨gartfxhf0_8_8, tartfxhf0_8_8⟩ : ∃ z, DataW.trod enc Try.prog W 0 (fun _ => true) true martfxhf0_8 5 [e0_16] = some z := ⟨xsartfxhf0_8[8], (heartfxhf0_8 8 (by decide)).trans (List.getElem?_eq_getElem (by omega))⟩
  obtain ⟨a0_16, hq, _, wa0_16⟩ := DataW.trod_int Try.underlying5 tartfxhf0_8_8
  obtain rfl := (List.cons.inj hq).1; clear hq
  obtain ⟨gartfxhf0_8_9, tartfxhf0_8_9⟩ : ∃ z, DataW.trod enc Try.prog W 0 (fun _ => true) true martfxhf0_8 5 [e0_17] = some z := ⟨xsartfxhf0_8[9], (heartfxhf0_8 9 (by decide)).trans (List.getElem?_eq_getElem (by omega))⟩
  obtain ⟨a0_17, hq, _, wa0_17⟩ := DataW.trod_int Try.underlying5 tartfxhf0_8_9
  obtain rfl := (List.cons.inj hq).1; clear hq
  obtain ⟨gartfxhf0_8_10, tartfxhf0_8_10⟩ : ∃ z, DataW.trod enc Try.prog W 0 (fun _ => true) true martfxhf0_8 5 [e0_18] = some z := ⟨xsartfxhf0_8[10], (heartfxhf0_8 10 (by decide)).trans (List.getElem?_eq_getElem (by omega))⟩
  obtain ⟨a0_18, hq, _, wa0_18⟩ := DataW.trod_int Try.underlying5 tartfxhf0_8_10
  obtain rfl := (List.cons.inj hq).1; clear hq
  obtain ⟨gartfxhf0_8_11, tartfxhf0_8_11⟩ : ∃ z, DataW.trod enc Try.prog W 0 (fun _ => true) true martfxhf0_8 5 [e0_19] = some z := ⟨xsartfxhf0_8[11], (heartfxhf0_8 11 (by decide)).trans (List.getElem?_eq_getElem (by omega))⟩
  obtain ⟨a0_19, hq, _, wa0_19⟩ := DataW.trod_int Try.underlying5 tartfxhf0_8_11
  obtain rfl := (List.cons.inj hq).1; clear hq
  obtain ⟨gartfxhf0_8_12, tartfxhf0_8_12⟩ : ∃ z, DataW.trod enc Try.prog W 0 (fun _ => true) true martfxhf0_8 5 [e0_20] = some z := ⟨xsartfxhf0_8[12], (heartfxhf0_8 12 (by decide)).trans (List.getElem?_eq_getElem (by omega))⟩
  obtain ⟨a0_20, hq, _, wa0_20⟩ := DataW.trod_int Try.underlying5 tartfxhf0_8_12
  obtain rfl := (List.cons.inj hq).1; clear hq
  obtain ⟨gartfxhf0_8_13, tartfxhf0_8_13⟩ : ∃ z, DataW.trod enc Try.prog W 0 (fun _ => true) true martfxhf0_8 5 [e0_21] = some z := ⟨xsartfxhf0_8[13], (heartfxhf0_8 13 (by decide)).trans (List.getElem?_eq_getElem (by omega))⟩
  obtain ⟨a0_21, hq, _, wa0_21⟩ := DataW.trod_int Try.underlying5 tartfxhf0_8_13
  obtain rfl := (List.cons.inj hq).1; clear hq
  obtain ⟨gartfxhf0_8_14, tartfxhf0_8_14⟩ : ∃ z, DataW.trod enc Try.prog W 0 (fun _ => true) true martfxhf0_8 5 [e0_22] = some z := ⟨xsartfxhf0_8[14], (heartfxhf0_8 14 (by decide)).trans (List.getElem?_eq_getElem (by omega))⟩
  obtain ⟨a0_22, hq, _, wa0_22⟩ := DataW.trod_int Try.underlying5 tartfxhf0_8_14
  obtain rfl := (List.cons.inj hq).1; clear hq
  obtain ⟨gartfxhf0_8_15, tartfxhf0_8_15⟩ : ∃ z, DataW.trod enc Try.prog W 0 (fun _ => true) true martfxhf0_8 5 [e0_23] = some z := ⟨xsartfxhf0_8[15], (heartfxhf0_8 15 (by decide)).trans (List.getElem?_eq_getElem (by omega))⟩
  obtain ⟨a0_23, hq, _, wa0_23⟩ := DataW.trod_int Try.underlying5 tartfxhf0_8_15
  obtain rfl := (List.cons.inj hq).1; clear hq
  obtain ⟨a1, rfl, rfl, rfl, wa1⟩ := open_int Try.underlying3 (hval 1 3 v1 rfl rfl) h1
  have k2 := h2
  have lt2 : ∀ x ∈ p2, x.block < W.heap.size := by obtain ⟨m, hm⟩ := k2; exact DataW.trod_lt m _ _ _ hm
  obtain ⟨fuel2, hf2⟩ := h2
  obtain ⟨a_2, b_2, c_2, rfl⟩ := okWide_slice Try.underlying33 (hval 2 33 v2 rfl rfl)
  have hf2 : DataW.trod enc Try.prog W 0 (fun _ => true) true fuel2 33 [.slice a_2 b_2 c_2] = some _ := hf2
  obtain ⟨l2, A2, c2, hq, hr2, hc2, hm2, hw2⟩ := rowpoint_of_trod (fun p => (⟨p.1, p.2.1, p.2.2.1, p.2.2.2⟩ : Go.Proofs.Ytpeejdmbnlhjmaa.H.S122)) (fun x : Go.Proofs.Ytpeejdmbnlhjmaa.H.S122 => (x.f0, x.f1, x.f2, x.f3)) (fun _ => rfl) Try.underlying33 Try.underlying122 (by kernel_rfl) rfl rfl rfl rfl (by kernel_rfl) (by kernel_rfl) (by kernel_rfl) (by kernel_rfl) Try.underlying3 Try.underlying3 Try.underlying3 Try.underlying4 hf2
  obtain ⟨rfl, rfl, rfl⟩ := Value.slice.inj (List.cons.inj hq).1; clear hq
  have k3 := h3
  have lt3 : ∀ x ∈ p3, x.block < W.heap.size := by obtain ⟨m, hm⟩ := k3; exact DataW.trod_lt m _ _ _ hm
  obtain ⟨fuel3, hf3⟩ := h3
  obtain ⟨l103, rfl, hl3⟩ := agg_cells Try.underlying36 (by kernel_rfl : Try.prog.cellsOf 36 = 2) (hval 3 36 v3 rfl rfl)
  obtain ⟨e3_0, e3_1, rfl⟩ := list2 hl3
  have hf3 : DataW.trod enc Try.prog W 0 (fun _ => true) true fuel3 36 [e3_0, e3_1] = some _ := hf3
  obtain ⟨nfxhf3, fxhf3⟩ := trod_fields Try.underlying36 hf3
  obtain ⟨yfxhf3_0, tfxhf3_0⟩ := trod_field fxhf3 0 0 1 9 rfl rfl rfl (by kernel_rfl) [e3_0] rfl
  obtain ⟨a3_0, hq, _, wa3_0⟩ := DataW.trod_string Try.underlying9 tfxhf3_0
  obtain rfl := (List.cons.inj hq).1; clear hq
  obtain ⟨yfxhf3_1, tfxhf3_1⟩ := trod_field fxhf3 1 1 1 34 rfl rfl rfl (by kernel_rfl) [e3_1] rfl
  obtain ⟨l3_1, A3_1, c3_1, hq, hr3_1, hc3_1, hm3_1, hw3_1⟩ := rowstr_of_trod Try.underlying34 Try.underlying9 (by kernel_rfl) tfxhf3_1
  obtain rfl := (List.cons.inj hq).1; clear hq
  have k4 := h4
  have lt4 : ∀ x ∈ p4, x.block < W.heap.size := by obtain ⟨m, hm⟩ := k4; exact DataW.trod_lt m _ _ _ hm
  obtain ⟨fuel4, hf4⟩ := h4
  obtain ⟨l104, rfl, hl4⟩ := agg_cells Try.underlying24 (by kernel_rfl : Try.prog.cellsOf 24 = 2) (hval 4 24 v4 rfl rfl)
  obtain ⟨e4_0, e4_1, rfl⟩ := list2 hl4
  have hf4 : DataW.trod enc Try.prog W 0 (fun _ => true) true fuel4 24 [e4_0, e4_1] = some _ := hf4
  obtain ⟨nfxhf4, fxhf4⟩ := trod_fields Try.underlying24 hf4
  obtain ⟨yfxhf4_0, tfxhf4_0⟩ := trod_field fxhf4 0 0 1 3 rfl rfl rfl (by kernel_rfl) [e4_0] rfl
  obtain ⟨a4_0, hq, _, wa4_0⟩ := DataW.trod_int Try.underlying3 tfxhf4_0
  obtain rfl := (List.cons.inj hq).1; clear hq
  obtain ⟨yfxhf4_1, tfxhf4_1⟩ := trod_field fxhf4 1 1 1 22 rfl rfl rfl (by kernel_rfl) [e4_1] rfl
  obtain ⟨l4_1, A4_1, c4_1, hq, hr4_1, hc4_1, hm4_1, hw4_1⟩ := row_of_trod Try.underlying22 Try.underlying5 (by kernel_rfl) tfxhf4_1
  obtain rfl := (List.cons.inj hq).1; clear hq
  clear hA0 hval0 hsz0
  refine (PMetaWrites.serinettelaw18_MetaWrites.walk Pure.MetaWrites a0_0 a0_1 a0_2 a0_3 a0_4 a0_5 a0_6 a0_7 a0_8 a0_9 a0_10 a0_11 a0_12 a0_13 a0_14 a0_15 a0_16 a0_17 a0_18 a0_19 a0_20 a0_21 a0_22 a0_23 a1 l2 a3_0 l3_1 a4_0 l4_1 W wa0_0 wa0_1 wa0_2 wa0_3 wa0_4 wa0_5 wa0_6 wa0_7 wa0_8 wa0_9 wa0_10 wa0_11 wa0_12 wa0_13 wa0_14 wa0_15 wa0_16 wa0_17 wa0_18 wa0_19 wa0_20 wa0_21 wa0_22 wa0_23 wa1 a_2 c_2 hr2 hc2 hm2 hw2 wa3_0 A3_1 c3_1 hr3_1 hc3_1 hm3_1 hw3_1 wa4_0 A4_1 c4_1 hr4_1 hc4_1 hm4_1 hw4_1).mono fun e W' ⟨he, bel⟩ => ?_
  subst he
  exact ⟨_, rfl, _, _, _, [], _, [], hW', trodAll_mk1 (shut_bool Try.underlying4 _), (trodAll_cons_mk (Below.trod laidOut (by kernel_rfl) (of_decide_eq_true (by kernel_rfl)) k0 bel lt0) (trodAll_cons_mk (shut_int Try.underlying3 wa1) (trodAll_cons_mk (Below.trod laidOut (by kernel_rfl) (of_decide_eq_true (by kernel_rfl)) k2 bel lt2) (trodAll_cons_mk (Below.trod laidOut (by kernel_rfl) (of_decide_eq_true (by kernel_rfl)) k3 bel lt3) (trodAll_cons_mk (Below.trod laidOut (by kernel_rfl) (of_decide_eq_true (by kernel_rfl)) k4 bel lt4) trodAll_mk0))))), rfl, bel.frame _, fun h => by cases h⟩
theorem over : Rows.metaWritesRow.holds Try.pinned (OpenSpec.ofChange Rows.metaWritesSpec) :=
  OpenClaim.holds_of_wide 5 Try.f5 rfl rfl rfl rfl rfl rfl rfl ⟨rfl, rfl, rfl, rfl, rfl⟩ rfl rfl rfl rfl rfl (by kernel_rfl) Try.func5 (by kernel_rfl)
    (of_decide_eq_true (by kernel_rfl)) (by unfold Func.isWrapper; first | (rw [if_pos (by decide +kernel)]; kernel_rfl) | (rw [if_neg (by decide +kernel)]; exact ⟨rfl, rfl⟩))
    (fun os started H enc _ => lifted os started H enc)
theorem proved : Rows.MetaWritesSaid := over
#print axioms proved
end Go.Proofs.Ytpeejdmbnlhjmaa.metaWrites
namespace Go.Proofs.Ytpeejdmbnlhjmaa
/-- The row, under a short name, for the claim. -/
theorem metaWrites_holds : Rows.MetaWritesSaid := metaWrites.proved
end Go.Proofs.Ytpeejdmbnlhjmaa
