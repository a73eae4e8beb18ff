-- written by this session's program wip/lawrow.py: the session's own text
import Derived.Test.YtgdgncdnhpflcaaDoorRows
import Derived.Test.YtgdgncdnhpflcaaDoorPPresetMorex6
import Derived.Test.YtgdgncdnhpflcaaDoorPurePresetMore
import Derived.Test.YtgdgncdnhpflcaaDoorHRow
import Derived.WalkKit
import Derived.ProofKit
import Derived.OpenShut
import Derived.ShutString
import Derived.ChangeOld
import Derived.Below
import Derived.SizedLaws
import Derived.ChangeArms
import Derived.FnData
import Derived.LaidMore
import Derived.Stop.Joined
import Derived.SevenTiedAt
import Derived.Test.YtgdgncdnhpflcaaDoorCards
import Derived.Test.YtgdgncdnhpflcaaDoorTie
namespace Go.Proofs.YtgdgncdnhpflcaaDoor.presetMore
open Go.ChangeShapes Go.WideShapes Go.ChangeAt Go.RowKit Go.Proofs.YtgdgncdnhpflcaaDoor.R
open Go.ChangeMaps (open_string shut_string)
set_option linter.unusedVariables false
section
open Go.Proofs.YtgdgncdnhpflcaaDoor.PPresetMore (S48 k48 k48_mk TAB0)
open Go.Proofs.YtgdgncdnhpflcaaDoorW.PrintWords
/-! The table, as the row's condition lays it, is the row of cells that the walks ask for. -/
theorem gTab : Tryd.prog.globalNamed "serinette/preset.table" = some 0 := by kernel_rfl
theorem tTab : (Tryd.prog.globals[0]?).map (·.type) = some 49 := by kernel_rfl
def data48 {H : Type} (x : S48) : DataW H := .agg [.lit (.int .i64 x.f0), .lit (.bool x.f1), .lit (.int .i64 x.f2), .lit (.int .i64 x.f3), .lit (.int .i64 x.f4), .lit (.bool x.f5), .lit (.int .i64 x.f6), .lit (.int .i64 x.f7)]
def cells48 (x : S48) : List Value := [.int .i64 x.f0, .bool x.f1, .int .i64 x.f2, .int .i64 x.f3, .int .i64 x.f4, .bool x.f5, .int .i64 x.f6, .int .i64 x.f7]
theorem laid_tab {H : Type} : (Rows.laid_serinette_preset_table : DataW H) = .agg (TAB0.map data48) := rfl
theorem len8 {α : Type} {l : List α} (h : l.length = 8) : ∃ a b c d e f g i, l = [a, b, c, d, e, f, g, i] := by
  match l, h with
  | [a, b, c, d, e, f, g, i], _ => exact ⟨a, b, c, d, e, f, g, i, rfl⟩
theorem elem48 {H : Type} {enc : TypeId × Value → H} {W : World} {base : Nat} {sp : Nat → Bool} {held : Bool} {fuel : Nat} {cs : List Value} {x : S48} {p : List MemPlace}
    (h : DataW.trod enc Tryd.prog W base sp held fuel 48 cs = some (data48 x, p)) : cs = cells48 x := by
  have c3 : Tryd.prog.cellsOf 3 = 1 := by kernel_rfl
  have c4 : Tryd.prog.cellsOf 4 = 1 := by kernel_rfl
  have c48 : Tryd.prog.cellsOf 48 = 8 := by kernel_rfl
  obtain ⟨xs, n, _, hx, hl, hlen, hf⟩ := DataW.trod_struct Tryd.underlying48 h
  rw [c48] at hl
  obtain ⟨v0, v1, v2, v3, v4, v5, v6, v7, rfl⟩ := len8 hl
  obtain ⟨x0, x1, x2, x3, x4, x5, x6, x7, rfl⟩ := len8 (show xs.length = 8 from hlen)
  have h0 : DataW.trod enc Tryd.prog W base sp held n 3 (([v0, v1, v2, v3, v4, v5, v6, v7].drop 0).take (Tryd.prog.cellsOf 3)) = some x0 := hf 0 _ rfl
  have h1 : DataW.trod enc Tryd.prog W base sp held n 4 (([v0, v1, v2, v3, v4, v5, v6, v7].drop 1).take (Tryd.prog.cellsOf 4)) = some x1 := hf 1 _ rfl
  have h2 : DataW.trod enc Tryd.prog W base sp held n 3 (([v0, v1, v2, v3, v4, v5, v6, v7].drop 2).take (Tryd.prog.cellsOf 3)) = some x2 := hf 2 _ rfl
  have h3 : DataW.trod enc Tryd.prog W base sp held n 3 (([v0, v1, v2, v3, v4, v5, v6, v7].drop 3).take (Tryd.prog.cellsOf 3)) = some x3 := hf 3 _ rfl
  have h4 : DataW.trod enc Tryd.prog W base sp held n 3 (([v0, v1, v2, v3, v4, v5, v6, v7].drop 4).take (Tryd.prog.cellsOf 3)) = some x4 := hf 4 _ rfl
  have h5 : DataW.trod enc Tryd.prog W base sp held n 4 (([v0, v1, v2, v3, v4, v5, v6, v7].drop 5).take (Tryd.prog.cellsOf 4)) = some x5 := hf 5 _ rfl
  have h6 : DataW.trod enc Tryd.prog W base sp held n 3 (([v0, v1, v2, v3, v4, v5, v6, v7].drop 6).take (Tryd.prog.cellsOf 3)) = some x6 := hf 6 _ rfl
  have h7 : DataW.trod enc Tryd.prog W base sp held n 3 (([v0, v1, v2, v3, v4, v5, v6, v7].drop 7).take (Tryd.prog.cellsOf 3)) = some x7 := hf 7 _ rfl
  rw [c3] at h0
  rw [c4] at h1
  rw [c3] at h2
  rw [c3] at h3
  rw [c3] at h4
  rw [c4] at h5
  rw [c3] at h6
  rw [c3] at h7
  obtain ⟨n0, e0, rfl, _⟩ := DataW.trod_int Tryd.underlying3 h0
  obtain ⟨n1, e1, rfl⟩ := DataW.trod_bool Tryd.underlying4 h1
  obtain ⟨n2, e2, rfl, _⟩ := DataW.trod_int Tryd.underlying3 h2
  obtain ⟨n3, e3, rfl, _⟩ := DataW.trod_int Tryd.underlying3 h3
  obtain ⟨n4, e4, rfl, _⟩ := DataW.trod_int Tryd.underlying3 h4
  obtain ⟨n5, e5, rfl⟩ := DataW.trod_bool Tryd.underlying4 h5
  obtain ⟨n6, e6, rfl, _⟩ := DataW.trod_int Tryd.underlying3 h6
  obtain ⟨n7, e7, rfl, _⟩ := DataW.trod_int Tryd.underlying3 h7
  simp [data48] at hx
  simp at e0 e1 e2 e3 e4 e5 e6 e7
  simp [cells48, *]
theorem tab_of_laid {W : World} (h : laidMetH Tryd.prog [("serinette/preset.table", Rows.laid_serinette_preset_table)] W) : Kd.C k48 W (some ⟨0, 0, none⟩) TAB0.length TAB0 := by
  rw [MakeChecks.laidMetH_plain _ _ _ (by kernel_rfl)] at h
  obtain ⟨ps, ⟨g0, t0, cs0, f0, p0, q0, hg0, ht0, hv0, hd0, _, _⟩, _, _⟩ := h
  obtain rfl := Option.some.inj (gTab.symm.trans hg0)
  obtain rfl := Option.some.inj (tTab.symm.trans ht0)
  rw [laid_tab] at hd0
  obtain ⟨xs, m, rfl, hx, hl, hn, hel⟩ := DataW.trod_array Tryd.underlying49 hd0
  have c48 : Tryd.prog.cellsOf 48 = 8 := by kernel_rfl
  simp only [Prod.mk.injEq, DataW.agg.injEq] at hx
  refine ⟨rfl, by decide, fun _ => ⟨_, rfl, fun j x hj => ?_⟩⟩
  have hj9 : j < 9 := by
    have := List.getElem?_eq_some_iff.1 hj
    exact this.1
  have e := hel j hj9
  rw [c48] at e
  have hxj : (xs.map (·.1))[j]? = some (data48 x) := by rw [← hx.1, List.getElem?_map, hj]; rfl
  rw [List.getElem?_map, Option.map_eq_some_iff] at hxj
  obtain ⟨⟨y, p⟩, hy, hy2⟩ := hxj
  dsimp only at hy2
  subst hy2
  have hc := elem48 (e.trans hy)
  refine ⟨cells48 x, rfl, k48_mk W x, fun i u hu => ?_⟩
  have hi : i < 8 := (List.getElem?_eq_some_iff.1 hu).1
  have hv := World.var?_cell hg0 hv0 (j * 8 + i)
  have ha : ((⟨0, 0, none⟩ : Addr).add (j * 8 + i)) = ⟨0, j * 8 + i, none⟩ := by
    unfold Addr.add
    split
    · rename_i z; rw [z]
    · simp
  show W.cell? ((⟨0, 0, none⟩ : Addr).add (j * 8 + i)) = some u
  rw [ha, hv, ← Array.getElem?_toList]
  rw [← hc, List.getElem?_take, if_pos hi, List.getElem?_drop] at hu
  exact hu
end
/-- The door's own heap meets the condition. -/
theorem door_met (os : Os) (args : Array Value) : laidMetH Tryd.prog [("serinette/preset.table", Rows.laid_serinette_preset_table)] ((World.doorLaid Tryd.prog 23 os).forCall (fun _ _ => 0) ⟨#[], args, []⟩).memory :=
  laidMetH_of_parts3 (fuel := 8) (laidMet_of_run' 8 (by kernel_rfl) (by kernel_rfl)) (by kernel_rfl) (by kernel_rfl)
theorem own : ownKnob Tryd.prog.godebug = none := by kernel_rfl
theorem laidOut : laidOutB Tryd.prog = true := by kernel_rfl
set_option maxRecDepth 100000 in
theorem lifted (os : Os) (started : os.Started) (H : Type) (enc : TypeId × Value → H) :
    ReturnsInHanded {} Tryd.checked os 4 .any (fun w args => (Rows.presetMoreSpec.pre enc Tryd.prog Tryd.f4 [] false w args ∧ laidMetH Tryd.prog [("serinette/preset.table", Rows.laid_serinette_preset_table)] w) ∧ sizedMet enc Tryd.prog Tryd.f4 (OpenSpec.ofChange Rows.presetMoreSpec) false w args)
      (Rows.presetMoreSpec.post enc Tryd.prog Tryd.f4 false true false false) := by
  refine returnsInHanded_of_change_and (C := Tryd.checked) (X := fun w _ => laidMetH Tryd.prog [("serinette/preset.table", Rows.laid_serinette_preset_table)] w) (fun _ _ _ hh h => h.of_heap hh) own started (by kernel_rfl) Tryd.func4
    (ChangeSpec.witness_shaped (enc := enc) (C := Tryd.checked) (os := os) (X := fun w _ => laidMetH Tryd.prog [("serinette/preset.table", Rows.laid_serinette_preset_table)] w) false (World.doorLaid Tryd.prog 23 os) #[.agg #[.int .i64 0, .bool false, .int .i64 0, .int .i64 0, .slice none 0 0, .slice none 0 0, .int .i64 0, .bool false], .int .u8 0, .int .u8 0] 8 rfl (World.shaped_of_RefB (by kernel_rfl) (by kernel_rfl)) (by kernel_rfl) (by kernel_rfl) (by kernel_rfl) (door_met os _)) ?_
  intro W base args ds gs before hval0 hW hcnd hsz0 hL _
  have hval : ∀ (j : Nat) t v, Tryd.f4.params[j]? = some t → args[j]? = some v → Value.okWide Tryd.prog W .any base t v := hval0
  have hW' := hW
  obtain ⟨p, q, hA0, hV, rfl, hfz, hnd⟩ := hW
  have hA : DataW.TrodAll enc Tryd.prog W 0 (fun _ => true) true Tryd.f4.params.toList args.toList ds p := hA0
  rw [Tryd.params4] at hA hval
  obtain ⟨v0, vs0, d0, ds0, p0, q0, hargs, rfl, rfl, h0, r0⟩ := trodAll_cons hA
  obtain ⟨v1, vs1, d1, ds1, p1, q1, rfl, rfl, rfl, h1, r1⟩ := trodAll_cons r0
  obtain ⟨v2, vs2, d2, ds2, p2, q2, rfl, rfl, rfl, h2, r2⟩ := trodAll_cons r1
  obtain ⟨rfl, rfl, rfl⟩ := trodAll_nil r2
  obtain rfl : args = #[v0, v1, v2] := by cases args; simp_all
  obtain ⟨rfl, rfl⟩ := trodVars_none hV
  have k0 := h0
  have lt0 : ∀ x ∈ p0, x.block < W.heap.size := by obtain ⟨m, hm⟩ := k0; exact DataW.trod_lt m _ _ _ hm
  obtain ⟨fuel0, hf0⟩ := h0
  obtain ⟨l100, rfl, hl0⟩ := agg_cells Tryd.underlying24 (by kernel_rfl : Tryd.prog.cellsOf 24 = 8) (hval 0 24 v0 rfl rfl)
  obtain ⟨e0_0, e0_1, e0_2, e0_3, e0_4, e0_5, e0_6, e0_7, rfl⟩ := list8 hl0
  have hf0 : DataW.trod enc Tryd.prog W 0 (fun _ => true) true fuel0 24 [e0_0, e0_1, e0_2, e0_3, e0_4, e0_5, e0_6, e0_7] = some _ := hf0
  obtain ⟨nfxhf0, fxhf0⟩ := trod_fields Tryd.underlying24 hf0
  obtain ⟨yfxhf0_0, tfxhf0_0⟩ := trod_field fxhf0 0 0 1 3 rfl rfl rfl (by kernel_rfl) [e0_0] rfl
  obtain ⟨a0_0, hq, _, wa0_0⟩ := DataW.trod_int Tryd.underlying3 tfxhf0_0
  obtain rfl := (List.cons.inj hq).1; clear hq
  obtain ⟨yfxhf0_1, tfxhf0_1⟩ := trod_field fxhf0 1 1 1 4 rfl rfl rfl (by kernel_rfl) [e0_1] rfl
  obtain ⟨a0_1, hq, _⟩ := DataW.trod_bool Tryd.underlying4 tfxhf0_1
  obtain rfl := (List.cons.inj hq).1; clear hq
  obtain ⟨yfxhf0_2, tfxhf0_2⟩ := trod_field fxhf0 2 2 1 3 rfl rfl rfl (by kernel_rfl) [e0_2] rfl
  obtain ⟨a0_2, hq, _, wa0_2⟩ := DataW.trod_int Tryd.underlying3 tfxhf0_2
  obtain rfl := (List.cons.inj hq).1; clear hq
  obtain ⟨yfxhf0_3, tfxhf0_3⟩ := trod_field fxhf0 3 3 1 3 rfl rfl rfl (by kernel_rfl) [e0_3] rfl
  obtain ⟨a0_3, hq, _, wa0_3⟩ := DataW.trod_int Tryd.underlying3 tfxhf0_3
  obtain rfl := (List.cons.inj hq).1; clear hq
  obtain ⟨yfxhf0_4, tfxhf0_4⟩ := trod_field fxhf0 4 4 1 22 rfl rfl rfl (by kernel_rfl) [e0_4] rfl
  obtain ⟨l0_4, A0_4, c0_4, hq, hr0_4, hc0_4, hm0_4, hw0_4⟩ := row_of_trod Tryd.underlying22 Tryd.underlying3 (by kernel_rfl) tfxhf0_4
  obtain rfl := (List.cons.inj hq).1; clear hq
  obtain ⟨yfxhf0_5, tfxhf0_5⟩ := trod_field fxhf0 5 5 1 22 rfl rfl rfl (by kernel_rfl) [e0_5] rfl
  obtain ⟨l0_5, A0_5, c0_5, hq, hr0_5, hc0_5, hm0_5, hw0_5⟩ := row_of_trod Tryd.underlying22 Tryd.underlying3 (by kernel_rfl) tfxhf0_5
  obtain rfl := (List.cons.inj hq).1; clear hq
  obtain ⟨yfxhf0_6, tfxhf0_6⟩ := trod_field fxhf0 6 6 1 3 rfl rfl rfl (by kernel_rfl) [e0_6] rfl
  obtain ⟨a0_6, hq, _, wa0_6⟩ := DataW.trod_int Tryd.underlying3 tfxhf0_6
  obtain rfl := (List.cons.inj hq).1; clear hq
  obtain ⟨yfxhf0_7, tfxhf0_7⟩ := trod_field fxhf0 7 7 1 4 rfl rfl rfl (by kernel_rfl) [e0_7] rfl
  obtain ⟨a0_7, hq, _⟩ := DataW.trod_bool Tryd.underlying4 tfxhf0_7
  obtain rfl := (List.cons.inj hq).1; clear hq
  obtain ⟨a1, rfl, rfl, rfl, wa1⟩ := open_int Tryd.underlying5 (hval 1 5 v1 rfl rfl) h1
  obtain ⟨a2, rfl, rfl, rfl, wa2⟩ := open_int Tryd.underlying5 (hval 2 5 v2 rfl rfl) h2
  clear hA0 hval0 hsz0
  refine (PPresetMore.serinettelaw19_PresetMore.walk Pure.PresetMore a0_0 a0_1 a0_2 a0_3 l0_4 l0_5 a0_6 a0_7 a1 a2 W wa0_0 wa0_2 wa0_3 A0_4 c0_4 hr0_4 hc0_4 hm0_4 hw0_4 A0_5 c0_5 hr0_5 hc0_5 hm0_5 hw0_5 wa0_6 wa1 wa2 (tab_of_laid hL)).mono fun e W' ⟨he, bel⟩ => ?_
  subst he
  exact ⟨_, rfl, _, _, _, [], _, [], hW', trodAll_mk1 (shut_bool Tryd.underlying4 _), (trodAll_cons_mk (Below.trod laidOut (by kernel_rfl) (of_decide_eq_true (by kernel_rfl)) k0 bel lt0) (trodAll_cons_mk (shut_int Tryd.underlying5 wa1) (trodAll_cons_mk (shut_int Tryd.underlying5 wa2) trodAll_mk0))), rfl, bel.frame _, fun h => by cases h⟩
theorem over : Rows.presetMoreRow.holds Tryd.pinned (OpenSpec.ofChange Rows.presetMoreSpec) :=
  OpenClaim.holds_of_wide 4 Tryd.f4 rfl rfl rfl rfl rfl rfl rfl ⟨rfl, rfl, rfl, rfl, rfl⟩ rfl rfl rfl rfl rfl (by kernel_rfl) Tryd.func4 (by kernel_rfl)
    (of_decide_eq_true (by kernel_rfl)) (by unfold Func.isWrapper; first | (rw [if_pos (by decide +kernel)]; kernel_rfl) | (rw [if_neg (by decide +kernel)]; exact ⟨rfl, rfl⟩))
    (fun os started H enc _ => lifted os started H enc)
theorem proved : Rows.PresetMoreSaid := over
#print axioms proved
end Go.Proofs.YtgdgncdnhpflcaaDoor.presetMore
namespace Go.Proofs.YtgdgncdnhpflcaaDoor
/-- The tied card, for the claim. -/
theorem presetMore_holds : Rows.PresetMoreCardSaid :=
  Claim7.holds_tied_plain_at .later [] [.data] true (true, "11f97de2038fb00e3178095c68363586896ef60bed78405871fb4fa29fb3709f") false
    presetMore.proved (fun _ h => by cases h) (by kernel_rfl) (fun _ h => by cases h) presetMore_row_tie rfl ⟨rfl, rfl⟩ (by kernel_rfl) rfl
    (fun f fn hf hfn => by
      obtain rfl : f = 4 := Option.some.inj ((show Tryd.prog.funcNamed "serinette/serinettelaw19.PresetMore" = some 4 by kernel_rfl).symm.trans hf) |>.symm
      obtain rfl : fn = Tryd.f4 := (Option.some.inj (Tryd.func4.symm.trans hfn)).symm
      exact ⟨by kernel_rfl, fun j t ht => by
        have hall : Tryd.f4.params.all (fun t => Tryd.prog.wantsStandIn t == false) = true := by kernel_rfl
        have := Array.all_eq_true_iff_forall_mem.1 hall t (Array.mem_of_getElem? ht)
        exact (show Tryd.prog.wantsStandIn t = false by simpa using this)⟩)
    (by kernel_rfl)
#print axioms presetMore_holds
end Go.Proofs.YtgdgncdnhpflcaaDoor
