-- written by this session's program wip/lawrow.py: the session's own text
import Derived.Test.YtgdgncdnhpflcaaDoorRows
import Derived.Test.YtgdgncdnhpflcaaDoorPPresetTellsx9
import Derived.Test.YtgdgncdnhpflcaaDoorPurePresetTells
import Derived.Test.YtgdgncdnhpflcaaDoorHRow
import Derived.WalkKit
import Derived.ProofKit
import Derived.OpenShut
import Derived.ShutString
import Derived.ChangeOld
import Derived.Below
import Derived.SizedLaws
import Derived.ChangeArms
import Derived.FnData
import Derived.LaidMore
import Derived.Stop.Joined
import Derived.SevenTiedAt
import Derived.Test.YtgdgncdnhpflcaaDoorCards
import Derived.Test.YtgdgncdnhpflcaaDoorTie
namespace Go.Proofs.YtgdgncdnhpflcaaDoor.presetTells
open Go.ChangeShapes Go.WideShapes Go.ChangeAt Go.RowKit Go.Proofs.YtgdgncdnhpflcaaDoor.R
open Go.ChangeMaps (open_string shut_string)
set_option linter.unusedVariables false
section
open Go.Proofs.YtgdgncdnhpflcaaDoor.PPresetTells (S48 k48 k48_mk TAB0)
open Go.Proofs.YtgdgncdnhpflcaaDoorW.PrintWords
/-! The table, as the row's condition lays it, is the row of cells that the walks ask for. -/
theorem gTab : Tryd.prog.globalNamed "serinette/preset.table" = some 0 := by kernel_rfl
theorem tTab : (Tryd.prog.globals[0]?).map (·.type) = some 49 := by kernel_rfl
def data48 {H : Type} (x : S48) : DataW H := .agg [.lit (.int .i64 x.f0), .lit (.bool x.f1), .lit (.int .i64 x.f2), .lit (.int .i64 x.f3), .lit (.int .i64 x.f4), .lit (.bool x.f5), .lit (.int .i64 x.f6), .lit (.int .i64 x.f7)]
def cells48 (x : S48) : List Value := [.int .i64 x.f0, .bool x.f1, .int .i64 x.f2, .int .i64 x.f3, .int .i64 x.f4, .bool x.f5, .int .i64 x.f6, .int .i64 x.f7]
theorem laid_tab {H : Type} : (Rows.laid_serinette_preset_table : DataW H) = .agg (TAB0.map data48) := rfl
theorem len8 {α : Type} {l : List α} (h : l.length = 8) : ∃ a b c d e f g i, l = [a, b, c, d, e, f, g, i] := by
  match l, h with
  | [a, b, c, d, e, f, g, i], _ => exact ⟨a, b, c, d, e, f, g, i, rfl⟩
theorem elem48 {H : Type} {enc : TypeId × Value → H} {W : World} {base : Nat} {sp : Nat → Bool} {held : Bool} {fuel : Nat} {cs : List Value} {x : S48} {p : List MemPlace}
    (h : DataW.trod enc Tryd.prog W base sp held fuel 48 cs = some (data48 x, p)) : cs = cells48 x := by
  have c3 : Tryd.prog.cellsOf 3 = 1 := by kernel_rfl
  have c4 : Tryd.prog.cellsOf 4 = 1 := by kernel_rfl
  have c48 : Tryd.prog.cellsOf 48 = 8 := by kernel_rfl
  obtain ⟨xs, n, _, hx, hl, hlen, hf⟩ := DataW.trod_struct Tryd.underlying48 h
  rw [c48] at hl
  obtain ⟨v0, v1, v2, v3, v4, v5, v6, v7, rfl⟩ := len8 hl
  obtain ⟨x0, x1, x2, x3, x4, x5, x6, x7, rfl⟩ := len8 (show xs.length = 8 from hlen)
  have h0 : DataW.trod enc Tryd.prog W base sp held n 3 (([v0, v1, v2, v3, v4, v5, v6, v7].drop 0).take (Tryd.prog.cellsOf 3)) = some x0 := hf 0 _ rfl
  have h1 : DataW.trod enc Tryd.prog W base sp held n 4 (([v0, v1, v2, v3, v4, v5, v6, v7].drop 1).take (Tryd.prog.cellsOf 4)) = some x1 := hf 1 _ rfl
  have h2 : DataW.trod enc Tryd.prog W base sp held n 3 (([v0, v1, v2, v3, v4, v5, v6, v7].drop 2).take (Tryd.prog.cellsOf 3)) = some x2 := hf 2 _ rfl
  have h3 : DataW.trod enc Tryd.prog W base sp held n 3 (([v0, v1, v2, v3, v4, v5, v6, v7].drop 3).take (Tryd.prog.cellsOf 3)) = some x3 := hf 3 _ rfl
  have h4 : DataW.trod enc Tryd.prog W base sp held n 3 (([v0, v1, v2, v3, v4, v5, v6, v7].drop 4).take (Tryd.prog.cellsOf 3)) = some x4 := hf 4 _ rfl
  have h5 : DataW.trod enc Tryd.prog W base sp held n 4 (([v0, v1, v2, v3, v4, v5, v6, v7].drop 5).take (Tryd.prog.cellsOf 4)) = some x5 := hf 5 _ rfl
  have h6 : DataW.trod enc Tryd.prog W base sp held n 3 (([v0, v1, v2, v3, v4, v5, v6, v7].drop 6).take (Tryd.prog.cellsOf 3)) = some x6 := hf 6 _ rfl
  have h7 : DataW.trod enc Tryd.prog W base sp held n 3 (([v0, v1, v2, v3, v4, v5, v6, v7].drop 7).take (Tryd.prog.cellsOf 3)) = some x7 := hf 7 _ rfl
  rw [c3] at h0
  rw [c4] at h1
  rw [c3] at h2
  rw [c3] at h3
  rw [c3] at h4
  rw [c4] at h5
  rw [c3] at h6
  rw [c3] at h7
  obtain ⟨n0, e0, rfl, _⟩ := DataW.trod_int Tryd.underlying3 h0
  obtain ⟨n1, e1, rfl⟩ := DataW.trod_bool Tryd.underlying4 h1
  obtain ⟨n2, e2, rfl, _⟩ := DataW.trod_int Tryd.underlying3 h2
  obtain ⟨n3, e3, rfl, _⟩ := DataW.trod_int Tryd.underlying3 h3
  obtain ⟨n4, e4, rfl, _⟩ := DataW.trod_int Tryd.underlying3 h4
  obtain ⟨n5, e5, rfl⟩ := DataW.trod_bool Tryd.underlying4 h5
  obtain ⟨n6, e6, rfl, _⟩ := DataW.trod_int Tryd.underlying3 h6
  obtain ⟨n7, e7, rfl, _⟩ := DataW.trod_int Tryd.underlying3 h7
  simp [data48] at hx
  simp at e0 e1 e2 e3 e4 e5 e6 e7
  simp [cells48, *]
theorem tab_of_laid {W : World} (h : laidMetH Tryd.prog [("serinette/preset.table", Rows.laid_serinette_preset_table)] W) : Kd.C k48 W (some ⟨0, 0, none⟩) TAB0.length TAB0 := by
  rw [MakeChecks.laidMetH_plain _ _ _ (by kernel_rfl)] at h
  obtain ⟨ps, ⟨g0, t0, cs0, f0, p0, q0, hg0, ht0, hv0, hd0, _, _⟩, _, _⟩ := h
  obtain rfl := Option.some.inj (gTab.symm.trans hg0)
  obtain rfl := Option.some.inj (tTab.symm.trans ht0)
  rw [laid_tab] at hd0
  obtain ⟨xs, m, rfl, hx, hl, hn, hel⟩ := DataW.trod_array Tryd.underlying49 hd0
  have c48 : Tryd.prog.cellsOf 48 = 8 := by kernel_rfl
  simp only [Prod.mk.injEq, DataW.agg.injEq] at hx
  refine ⟨rfl, by decide, fun _ => ⟨_, rfl, fun j x hj => ?_⟩⟩
  have hj9 : j < 9 := by
    have := List.getElem?_eq_some_iff.1 hj
    exact this.1
  have e := hel j hj9
  rw [c48] at e
  have hxj : (xs.map (·.1))[j]? = some (data48 x) := by rw [← hx.1, List.getElem?_map, hj]; rfl
  rw [List.getElem?_map, Option.map_eq_some_iff] at hxj
  obtain ⟨⟨y, p⟩, hy, hy2⟩ := hxj
  dsimp only at hy2
  subst hy2
  have hc := elem48 (e.trans hy)
  refine ⟨cells48 x, rfl, k48_mk W x, fun i u hu => ?_⟩
  have hi : i < 8 := (List.getElem?_eq_some_iff.1 hu).1
  have hv := World.var?_cell hg0 hv0 (j * 8 + i)
  have ha : ((⟨0, 0, none⟩ : Addr).add (j * 8 + i)) = ⟨0, j * 8 + i, none⟩ := by
    unfold Addr.add
    split
    · rename_i z; rw [z]
    · simp
  show W.cell? ((⟨0, 0, none⟩ : Addr).add (j * 8 + i)) = some u
  rw [ha, hv, ← Array.getElem?_toList]
  rw [← hc, List.getElem?_take, if_pos hi, List.getElem?_drop] at hu
  exact hu
end
/-- The door's own heap meets the condition. -/
theorem door_met (os : Os) (args : Array Value) : laidMetH Tryd.prog [("serinette/preset.table", Rows.laid_serinette_preset_table)] ((World.doorLaid Tryd.prog 23 os).forCall (fun _ _ => 0) ⟨#[], args, []⟩).memory :=
  laidMetH_of_parts3 (fuel := 8) (laidMet_of_run' 8 (by kernel_rfl) (by kernel_rfl)) (by kernel_rfl) (by kernel_rfl)
theorem own : ownKnob Tryd.prog.godebug = none := by kernel_rfl
theorem laidOut : laidOutB Tryd.prog = true := by kernel_rfl
set_option maxRecDepth 100000 in
theorem lifted (os : Os) (started : os.Started) (H : Type) (enc : TypeId × Value → H) :
    ReturnsInHanded {} Tryd.checked os 3 .any (fun w args => (Rows.presetTellsSpec.pre enc Tryd.prog Tryd.f3 [] false w args ∧ laidMetH Tryd.prog [("serinette/preset.table", Rows.laid_serinette_preset_table)] w) ∧ sizedMet enc Tryd.prog Tryd.f3 (OpenSpec.ofChange Rows.presetTellsSpec) false w args)
      (Rows.presetTellsSpec.post enc Tryd.prog Tryd.f3 false true false false) := by
  refine returnsInHanded_of_change_and (C := Tryd.checked) (X := fun w _ => laidMetH Tryd.prog [("serinette/preset.table", Rows.laid_serinette_preset_table)] w) (fun _ _ _ hh h => h.of_heap hh) own started (by kernel_rfl) Tryd.func3
    (ChangeSpec.witness_shaped (enc := enc) (C := Tryd.checked) (os := os) (X := fun w _ => laidMetH Tryd.prog [("serinette/preset.table", Rows.laid_serinette_preset_table)] w) false (World.doorLaid Tryd.prog 23 os) #[.int .i64 0, .agg #[.int .i64 0, .bool false, .int .i64 0, .int .i64 0, .slice none 0 0, .slice none 0 0, .int .i64 0, .bool false]] 8 rfl (World.shaped_of_RefB (by kernel_rfl) (by kernel_rfl)) (by kernel_rfl) (by kernel_rfl) (by kernel_rfl) (door_met os _)) ?_
  intro W base args ds gs before hval0 hW hcnd hsz0 hL _
  have hval : ∀ (j : Nat) t v, Tryd.f3.params[j]? = some t → args[j]? = some v → Value.okWide Tryd.prog W .any base t v := hval0
  have hW' := hW
  obtain ⟨p, q, hA0, hV, rfl, hfz, hnd⟩ := hW
  have hA : DataW.TrodAll enc Tryd.prog W 0 (fun _ => true) true Tryd.f3.params.toList args.toList ds p := hA0
  rw [Tryd.params3] at hA hval
  obtain ⟨v0, vs0, d0, ds0, p0, q0, hargs, rfl, rfl, h0, r0⟩ := trodAll_cons hA
  obtain ⟨v1, vs1, d1, ds1, p1, q1, rfl, rfl, rfl, h1, r1⟩ := trodAll_cons r0
  obtain ⟨rfl, rfl, rfl⟩ := trodAll_nil r1
  obtain rfl : args = #[v0, v1] := by cases args; simp_all
  obtain ⟨rfl, rfl⟩ := trodVars_none hV
  obtain ⟨a0, rfl, rfl, rfl, wa0⟩ := open_int Tryd.underlying3 (hval 0 3 v0 rfl rfl) h0
  have k1 := h1
  have lt1 : ∀ x ∈ p1, x.block < W.heap.size := by obtain ⟨m, hm⟩ := k1; exact DataW.trod_lt m _ _ _ hm
  obtain ⟨fuel1, hf1⟩ := h1
  obtain ⟨l101, rfl, hl1⟩ := agg_cells Tryd.underlying24 (by kernel_rfl : Tryd.prog.cellsOf 24 = 8) (hval 1 24 v1 rfl rfl)
  obtain ⟨e1_0, e1_1, e1_2, e1_3, e1_4, e1_5, e1_6, e1_7, rfl⟩ := list8 hl1
  have hf1 : DataW.trod enc Tryd.prog W 0 (fun _ => true) true fuel1 24 [e1_0, e1_1, e1_2, e1_3, e1_4, e1_5, e1_6, e1_7] = some _ := hf1
  obtain ⟨nfxhf1, fxhf1⟩ := trod_fields Tryd.underlying24 hf1
  obtain ⟨yfxhf1_0, tfxhf1_0⟩ := trod_field fxhf1 0 0 1 3 rfl rfl rfl (by kernel_rfl) [e1_0] rfl
  obtain ⟨a1_0, hq, _, wa1_0⟩ := DataW.trod_int Tryd.underlying3 tfxhf1_0
  obtain rfl := (List.cons.inj hq).1; clear hq
  obtain ⟨yfxhf1_1, tfxhf1_1⟩ := trod_field fxhf1 1 1 1 4 rfl rfl rfl (by kernel_rfl) [e1_1] rfl
  obtain ⟨a1_1, hq, _⟩ := DataW.trod_bool Tryd.underlying4 tfxhf1_1
  obtain rfl := (List.cons.inj hq).1; clear hq
  obtain ⟨yfxhf1_2, tfxhf1_2⟩ := trod_field fxhf1 2 2 1 3 rfl rfl rfl (by kernel_rfl) [e1_2] rfl
  obtain ⟨a1_2, hq, _, wa1_2⟩ := DataW.trod_int Tryd.underlying3 tfxhf1_2
  obtain rfl := (List.cons.inj hq).1; clear hq
  obtain ⟨yfxhf1_3, tfxhf1_3⟩ := trod_field fxhf1 3 3 1 3 rfl rfl rfl (by kernel_rfl) [e1_3] rfl
  obtain ⟨a1_3, hq, _, wa1_3⟩ := DataW.trod_int Tryd.underlying3 tfxhf1_3
  obtain rfl := (List.cons.inj hq).1; clear hq
  obtain ⟨yfxhf1_4, tfxhf1_4⟩ := trod_field fxhf1 4 4 1 22 rfl rfl rfl (by kernel_rfl) [e1_4] rfl
  obtain ⟨l1_4, A1_4, c1_4, hq, hr1_4, hc1_4, hm1_4, hw1_4⟩ := row_of_trod Tryd.underlying22 Tryd.underlying3 (by kernel_rfl) tfxhf1_4
  obtain rfl := (List.cons.inj hq).1; clear hq
  obtain ⟨yfxhf1_5, tfxhf1_5⟩ := trod_field fxhf1 5 5 1 22 rfl rfl rfl (by kernel_rfl) [e1_5] rfl
  obtain ⟨l1_5, A1_5, c1_5, hq, hr1_5, hc1_5, hm1_5, hw1_5⟩ := row_of_trod Tryd.underlying22 Tryd.underlying3 (by kernel_rfl) tfxhf1_5
  obtain rfl := (List.cons.inj hq).1; clear hq
  obtain ⟨yfxhf1_6, tfxhf1_6⟩ := trod_field fxhf1 6 6 1 3 rfl rfl rfl (by kernel_rfl) [e1_6] rfl
  obtain ⟨a1_6, hq, _, wa1_6⟩ := DataW.trod_int Tryd.underlying3 tfxhf1_6
  obtain rfl := (List.cons.inj hq).1; clear hq
  obtain ⟨yfxhf1_7, tfxhf1_7⟩ := trod_field fxhf1 7 7 1 4 rfl rfl rfl (by kernel_rfl) [e1_7] rfl
  obtain ⟨a1_7, hq, _⟩ := DataW.trod_bool Tryd.underlying4 tfxhf1_7
  obtain rfl := (List.cons.inj hq).1; clear hq
  clear hA0 hval0 hsz0
  refine (PPresetTells.serinettelaw19_PresetTells.walk Pure.PresetTells a0 a1_0 a1_1 a1_2 a1_3 l1_4 l1_5 a1_6 a1_7 W wa0 wa1_0 wa1_2 wa1_3 A1_4 c1_4 hr1_4 hc1_4 hm1_4 hw1_4 A1_5 c1_5 hr1_5 hc1_5 hm1_5 hw1_5 wa1_6 (tab_of_laid hL)).mono fun e W' ⟨he, bel⟩ => ?_
  subst he
  exact ⟨_, rfl, _, _, _, [], _, [], hW', trodAll_mk1 (shut_bool Tryd.underlying4 _), (trodAll_cons_mk (shut_int Tryd.underlying3 wa0) (trodAll_cons_mk (Below.trod laidOut (by kernel_rfl) (of_decide_eq_true (by kernel_rfl)) k1 bel lt1) trodAll_mk0)), rfl, bel.frame _, fun h => by cases h⟩
theorem over : Rows.presetTellsRow.holds Tryd.pinned (OpenSpec.ofChange Rows.presetTellsSpec) :=
  OpenClaim.holds_of_wide 3 Tryd.f3 rfl rfl rfl rfl rfl rfl rfl ⟨rfl, rfl, rfl, rfl, rfl⟩ rfl rfl rfl rfl rfl (by kernel_rfl) Tryd.func3 (by kernel_rfl)
    (of_decide_eq_true (by kernel_rfl)) (by unfold Func.isWrapper; first | (rw [if_pos (by decide +kernel)]; kernel_rfl) | (rw [if_neg (by decide +kernel)]; exact ⟨rfl, rfl⟩))
    (fun os started H enc _ => lifted os started H enc)
theorem proved : Rows.PresetTellsSaid := over
#print axioms proved
end Go.Proofs.YtgdgncdnhpflcaaDoor.presetTells
namespace Go.Proofs.YtgdgncdnhpflcaaDoor
/-- The tied card, for the claim. -/
theorem presetTells_holds : Rows.PresetTellsCardSaid :=
  Claim7.holds_tied_plain_at .later [] [.data] true (true, "11f97de2038fb00e3178095c68363586896ef60bed78405871fb4fa29fb3709f") false
    presetTells.proved (fun _ h => by cases h) (by kernel_rfl) (fun _ h => by cases h) presetTells_row_tie rfl ⟨rfl, rfl⟩ (by kernel_rfl) rfl
    (fun f fn hf hfn => by
      obtain rfl : f = 3 := Option.some.inj ((show Tryd.prog.funcNamed "serinette/serinettelaw19.PresetTells" = some 3 by kernel_rfl).symm.trans hf) |>.symm
      obtain rfl : fn = Tryd.f3 := (Option.some.inj (Tryd.func3.symm.trans hfn)).symm
      exact ⟨by kernel_rfl, fun j t ht => by
        have hall : Tryd.f3.params.all (fun t => Tryd.prog.wantsStandIn t == false) = true := by kernel_rfl
        have := Array.all_eq_true_iff_forall_mem.1 hall t (Array.mem_of_getElem? ht)
        exact (show Tryd.prog.wantsStandIn t = false by simpa using this)⟩)
    (by kernel_rfl)
#print axioms presetTells_holds
end Go.Proofs.YtgdgncdnhpflcaaDoor
