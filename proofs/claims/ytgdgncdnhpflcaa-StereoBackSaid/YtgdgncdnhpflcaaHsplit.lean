/- The modes of two channels, there and back (stereo.Split and stereo.Join at the modes 1, 8, 9 and 10), as plain functions, with the proofs that the program's calls come to them. For any lists. -/
import Derived.Test.YtgdgncdnhpflcaaHboth
import Derived.Deep.WholeRow
namespace Go.Proofs.Ytgdgncdnhpflcaa.H
open Go.RowKit Go.Proofs.YtgdgncdnhpflcaaW.PrintWords Go.Proofs.YtgdgncdnhpflcaaW.PrintLast Go.Proofs.YtgdgncdnhpflcaaW.PrintMore
attribute [local go_sem] max2_int min2_int max_two min_two max_three min_three max_four min_four   -- for this text's walks alone
set_option linter.unusedVariables false
set_option linter.unusedSimpArgs false
def fv (k : Nat) : Value := .func (.func k) #[] #[]
def waysRow : Array Value := #[.nilFunc, .nilFunc, fv 61, fv 61, .nilFunc, .nilFunc, .nilFunc, .nilFunc, .nilFunc, .nilFunc, .nilFunc, .nilFunc, .nilFunc, .nilFunc, .nilFunc, .nilFunc, fv 62, fv 62, fv 63, fv 64, fv 65, fv 66]
def waysZero : Array Value := #[.nilFunc, .nilFunc, .nilFunc, .nilFunc, .nilFunc, .nilFunc, .nilFunc, .nilFunc, .nilFunc, .nilFunc, .nilFunc, .nilFunc, .nilFunc, .nilFunc, .nilFunc, .nilFunc, .nilFunc, .nilFunc, .nilFunc, .nilFunc, .nilFunc, .nilFunc]
theorem ways_stored (w : World) : (Instr.storeAt 89 (.pointer (some ⟨w.heap.size, 0, none⟩)) (.agg waysRow)).run Try.prog (w.alloc (.cells waysZero 89)) = .ok () (w.alloc (.cells waysRow 89)) :=
  run_storeAt_new (P := Try.prog) w 89 waysZero waysRow (by kernel_rfl) rfl (by decide +kernel)
theorem store_ev {P : Program} {ops : Array Oper} {rest : List Oper} {o : Oper} {a : Act} {Q : Exit → Act → World → Prop} {W w1 : World} (hgd : o.guard = none) (t : TypeId) (p : Tmp) (x : Operand) (ho : o.op = .store t (.tmp p) x) (hN : o.dst = none) (u v : Value)
    (hp : a.eval (.tmp p) = u) (hx : a.eval x = v) (hs : (Instr.storeAt t u v).run P W = .ok () w1) (h : ∀ w', w' = w1 → wpList P ops Q rest a w') : wpList P ops Q (o :: rest) a W := by
  refine store_event (t := t) (p := p) (v := x) (w1 := w1) hgd ho hN ?_ h
  unfold execOp
  simp only [ho, hp, hx, Sem.run_bind, hs, Sem.run_pure, Result.andThen_ok]
theorem ways_ev {w w1 : World} (hw : w1 = w.alloc (.cells waysRow 89)) : Below w.heap.size w w1 ∧ ∀ (i : Nat) v, waysRow[i]? = some v → w1.cell? ⟨w.heap.size, i, none⟩ = some v := by
  subst hw
  exact ⟨(Below.refl _ _).alloc (Nat.le_refl _) _, fun i v h => (cell_of_row _ _ i _ _ _ (heap_alloc_last w _)).trans h⟩
theorem way_1_0_c {w w1 : World} (h : ∀ (i : Nat) v, waysRow[i]? = some v → w1.cell? ⟨w.heap.size, i, none⟩ = some v) : w1.cell? ⟨w.heap.size, 2, none⟩ = some (.func (.func 61) #[] #[]) := h 2 _ rfl
set_option maxHeartbeats 8000000 in
set_option maxRecDepth 100000 in
theorem way_1_0 (w : World) : Calls Try.prog 45 #[.int .i64 1, .bool false] w fun e w' => e = .returned (.func (.func 61) #[] #[]) ∧ Below w.heap.size w w' := by
  go_enter Try.func45, Try.ntmps45
  go_wp2_with (first | ((with_reducible refine gate_store (t := 89) (p := 5) rfl ?_); refine store_ev rfl 89 5 (.tmp 10) rfl rfl _ (.agg waysRow) rfl rfl (ways_stored w) ?_; intro w1 hw; have hg := ways_ev hw; clear hw; have hc := way_1_0_c hg.2))
  go_ret
  exact ⟨rfl, hg.1⟩
theorem way_1_1_c {w w1 : World} (h : ∀ (i : Nat) v, waysRow[i]? = some v → w1.cell? ⟨w.heap.size, i, none⟩ = some v) : w1.cell? ⟨w.heap.size, 3, none⟩ = some (.func (.func 61) #[] #[]) := h 3 _ rfl
set_option maxHeartbeats 8000000 in
set_option maxRecDepth 100000 in
theorem way_1_1 (w : World) : Calls Try.prog 45 #[.int .i64 1, .bool true] w fun e w' => e = .returned (.func (.func 61) #[] #[]) ∧ Below w.heap.size w w' := by
  go_enter Try.func45, Try.ntmps45
  go_wp2_with (first | ((with_reducible refine gate_store (t := 89) (p := 5) rfl ?_); refine store_ev rfl 89 5 (.tmp 10) rfl rfl _ (.agg waysRow) rfl rfl (ways_stored w) ?_; intro w1 hw; have hg := ways_ev hw; clear hw; have hc := way_1_1_c hg.2))
  go_ret
  exact ⟨rfl, hg.1⟩
theorem way_8_0_c {w w1 : World} (h : ∀ (i : Nat) v, waysRow[i]? = some v → w1.cell? ⟨w.heap.size, i, none⟩ = some v) : w1.cell? ⟨w.heap.size, 16, none⟩ = some (.func (.func 62) #[] #[]) := h 16 _ rfl
set_option maxHeartbeats 8000000 in
set_option maxRecDepth 100000 in
theorem way_8_0 (w : World) : Calls Try.prog 45 #[.int .i64 8, .bool false] w fun e w' => e = .returned (.func (.func 62) #[] #[]) ∧ Below w.heap.size w w' := by
  go_enter Try.func45, Try.ntmps45
  go_wp2_with (first | ((with_reducible refine gate_store (t := 89) (p := 5) rfl ?_); refine store_ev rfl 89 5 (.tmp 10) rfl rfl _ (.agg waysRow) rfl rfl (ways_stored w) ?_; intro w1 hw; have hg := ways_ev hw; clear hw; have hc := way_8_0_c hg.2))
  go_ret
  exact ⟨rfl, hg.1⟩
theorem way_8_1_c {w w1 : World} (h : ∀ (i : Nat) v, waysRow[i]? = some v → w1.cell? ⟨w.heap.size, i, none⟩ = some v) : w1.cell? ⟨w.heap.size, 17, none⟩ = some (.func (.func 62) #[] #[]) := h 17 _ rfl
set_option maxHeartbeats 8000000 in
set_option maxRecDepth 100000 in
theorem way_8_1 (w : World) : Calls Try.prog 45 #[.int .i64 8, .bool true] w fun e w' => e = .returned (.func (.func 62) #[] #[]) ∧ Below w.heap.size w w' := by
  go_enter Try.func45, Try.ntmps45
  go_wp2_with (first | ((with_reducible refine gate_store (t := 89) (p := 5) rfl ?_); refine store_ev rfl 89 5 (.tmp 10) rfl rfl _ (.agg waysRow) rfl rfl (ways_stored w) ?_; intro w1 hw; have hg := ways_ev hw; clear hw; have hc := way_8_1_c hg.2))
  go_ret
  exact ⟨rfl, hg.1⟩
theorem way_9_0_c {w w1 : World} (h : ∀ (i : Nat) v, waysRow[i]? = some v → w1.cell? ⟨w.heap.size, i, none⟩ = some v) : w1.cell? ⟨w.heap.size, 18, none⟩ = some (.func (.func 63) #[] #[]) := h 18 _ rfl
set_option maxHeartbeats 8000000 in
set_option maxRecDepth 100000 in
theorem way_9_0 (w : World) : Calls Try.prog 45 #[.int .i64 9, .bool false] w fun e w' => e = .returned (.func (.func 63) #[] #[]) ∧ Below w.heap.size w w' := by
  go_enter Try.func45, Try.ntmps45
  go_wp2_with (first | ((with_reducible refine gate_store (t := 89) (p := 5) rfl ?_); refine store_ev rfl 89 5 (.tmp 10) rfl rfl _ (.agg waysRow) rfl rfl (ways_stored w) ?_; intro w1 hw; have hg := ways_ev hw; clear hw; have hc := way_9_0_c hg.2))
  go_ret
  exact ⟨rfl, hg.1⟩
theorem way_9_1_c {w w1 : World} (h : ∀ (i : Nat) v, waysRow[i]? = some v → w1.cell? ⟨w.heap.size, i, none⟩ = some v) : w1.cell? ⟨w.heap.size, 19, none⟩ = some (.func (.func 64) #[] #[]) := h 19 _ rfl
set_option maxHeartbeats 8000000 in
set_option maxRecDepth 100000 in
theorem way_9_1 (w : World) : Calls Try.prog 45 #[.int .i64 9, .bool true] w fun e w' => e = .returned (.func (.func 64) #[] #[]) ∧ Below w.heap.size w w' := by
  go_enter Try.func45, Try.ntmps45
  go_wp2_with (first | ((with_reducible refine gate_store (t := 89) (p := 5) rfl ?_); refine store_ev rfl 89 5 (.tmp 10) rfl rfl _ (.agg waysRow) rfl rfl (ways_stored w) ?_; intro w1 hw; have hg := ways_ev hw; clear hw; have hc := way_9_1_c hg.2))
  go_ret
  exact ⟨rfl, hg.1⟩
theorem way_10_0_c {w w1 : World} (h : ∀ (i : Nat) v, waysRow[i]? = some v → w1.cell? ⟨w.heap.size, i, none⟩ = some v) : w1.cell? ⟨w.heap.size, 20, none⟩ = some (.func (.func 65) #[] #[]) := h 20 _ rfl
set_option maxHeartbeats 8000000 in
set_option maxRecDepth 100000 in
theorem way_10_0 (w : World) : Calls Try.prog 45 #[.int .i64 10, .bool false] w fun e w' => e = .returned (.func (.func 65) #[] #[]) ∧ Below w.heap.size w w' := by
  go_enter Try.func45, Try.ntmps45
  go_wp2_with (first | ((with_reducible refine gate_store (t := 89) (p := 5) rfl ?_); refine store_ev rfl 89 5 (.tmp 10) rfl rfl _ (.agg waysRow) rfl rfl (ways_stored w) ?_; intro w1 hw; have hg := ways_ev hw; clear hw; have hc := way_10_0_c hg.2))
  go_ret
  exact ⟨rfl, hg.1⟩
theorem way_10_1_c {w w1 : World} (h : ∀ (i : Nat) v, waysRow[i]? = some v → w1.cell? ⟨w.heap.size, i, none⟩ = some v) : w1.cell? ⟨w.heap.size, 21, none⟩ = some (.func (.func 66) #[] #[]) := h 21 _ rfl
set_option maxHeartbeats 8000000 in
set_option maxRecDepth 100000 in
theorem way_10_1 (w : World) : Calls Try.prog 45 #[.int .i64 10, .bool true] w fun e w' => e = .returned (.func (.func 66) #[] #[]) ∧ Below w.heap.size w w' := by
  go_enter Try.func45, Try.ntmps45
  go_wp2_with (first | ((with_reducible refine gate_store (t := 89) (p := 5) rfl ?_); refine store_ev rfl 89 5 (.tmp 10) rfl rfl _ (.agg waysRow) rfl rfl (ways_stored w) ?_; intro w1 hw; have hg := ways_ev hw; clear hw; have hc := way_10_1_c hg.2))
  go_ret
  exact ⟨rfl, hg.1⟩
theorem both_same (k : Nat) (A1 : Option Addr) (c1 : Nat) (l1 : List Int) (A2 : Option Addr) (c2 : Nat) (l2 : List Int) (r1 r2 : List Int) (r3 : Int) (w : World) (hr1 : Kd.C (Kd.int .i64) w A1 l1.length l1) (hc1 : l1.length ≤ c1) (hr2 : Kd.C (Kd.int .i64) w A2 l2.length l2) (hc2 : l2.length ≤ c2) (h : stereo_both.f stereo_pair_same.f k l1 l2 = some (r1, r2, r3)) :
    Calls Try.prog 44 #[.func (.func 61) #[] #[], .slice A1 l1.length c1, .slice A2 l2.length c2] w fun e w' => ∃ v0_ v1_ : Value, e = .returned (.tuple #[v0_, v1_, .int .i64 r3]) ∧ Kd.R (Kd.int .i64) 3 w' w.heap.size (fun k_ => some k_ ≠ (v1_ : Value).ownBlock) v0_ r1 ∧ Kd.R (Kd.int .i64) 3 w' w.heap.size (fun k_ => some k_ ≠ (v0_ : Value).ownBlock) v1_ r2 ∧ Below w.heap.size w w' :=
  stereo_both.calls stereo_pair_same.f 61 _ Try.func61 (by kernel_rfl) rfl (fun a b s1 s2 w' hh => stereo_pair_same.calls a b s1 s2 w' hh) k A1 c1 l1 A2 c2 l2 r1 r2 r3 w hr1 hc1 hr2 hc2 h
theorem both_less (k : Nat) (A1 : Option Addr) (c1 : Nat) (l1 : List Int) (A2 : Option Addr) (c2 : Nat) (l2 : List Int) (r1 r2 : List Int) (r3 : Int) (w : World) (hr1 : Kd.C (Kd.int .i64) w A1 l1.length l1) (hc1 : l1.length ≤ c1) (hr2 : Kd.C (Kd.int .i64) w A2 l2.length l2) (hc2 : l2.length ≤ c2) (h : stereo_both.f stereo_pair_less.f k l1 l2 = some (r1, r2, r3)) :
    Calls Try.prog 44 #[.func (.func 62) #[] #[], .slice A1 l1.length c1, .slice A2 l2.length c2] w fun e w' => ∃ v0_ v1_ : Value, e = .returned (.tuple #[v0_, v1_, .int .i64 r3]) ∧ Kd.R (Kd.int .i64) 3 w' w.heap.size (fun k_ => some k_ ≠ (v1_ : Value).ownBlock) v0_ r1 ∧ Kd.R (Kd.int .i64) 3 w' w.heap.size (fun k_ => some k_ ≠ (v0_ : Value).ownBlock) v1_ r2 ∧ Below w.heap.size w w' :=
  stereo_both.calls stereo_pair_less.f 62 _ Try.func62 (by kernel_rfl) rfl (fun a b s1 s2 w' hh => stereo_pair_less.calls a b s1 s2 w' hh) k A1 c1 l1 A2 c2 l2 r1 r2 r3 w hr1 hc1 hr2 hc2 h
theorem both_more (k : Nat) (A1 : Option Addr) (c1 : Nat) (l1 : List Int) (A2 : Option Addr) (c2 : Nat) (l2 : List Int) (r1 r2 : List Int) (r3 : Int) (w : World) (hr1 : Kd.C (Kd.int .i64) w A1 l1.length l1) (hc1 : l1.length ≤ c1) (hr2 : Kd.C (Kd.int .i64) w A2 l2.length l2) (hc2 : l2.length ≤ c2) (h : stereo_both.f stereo_pair_more.f k l1 l2 = some (r1, r2, r3)) :
    Calls Try.prog 44 #[.func (.func 63) #[] #[], .slice A1 l1.length c1, .slice A2 l2.length c2] w fun e w' => ∃ v0_ v1_ : Value, e = .returned (.tuple #[v0_, v1_, .int .i64 r3]) ∧ Kd.R (Kd.int .i64) 3 w' w.heap.size (fun k_ => some k_ ≠ (v1_ : Value).ownBlock) v0_ r1 ∧ Kd.R (Kd.int .i64) 3 w' w.heap.size (fun k_ => some k_ ≠ (v0_ : Value).ownBlock) v1_ r2 ∧ Below w.heap.size w w' :=
  stereo_both.calls stereo_pair_more.f 63 _ Try.func63 (by kernel_rfl) rfl (fun a b s1 s2 w' hh => stereo_pair_more.calls a b s1 s2 w' hh) k A1 c1 l1 A2 c2 l2 r1 r2 r3 w hr1 hc1 hr2 hc2 h
theorem both_add (k : Nat) (A1 : Option Addr) (c1 : Nat) (l1 : List Int) (A2 : Option Addr) (c2 : Nat) (l2 : List Int) (r1 r2 : List Int) (r3 : Int) (w : World) (hr1 : Kd.C (Kd.int .i64) w A1 l1.length l1) (hc1 : l1.length ≤ c1) (hr2 : Kd.C (Kd.int .i64) w A2 l2.length l2) (hc2 : l2.length ≤ c2) (h : stereo_both.f stereo_pair_add.f k l1 l2 = some (r1, r2, r3)) :
    Calls Try.prog 44 #[.func (.func 64) #[] #[], .slice A1 l1.length c1, .slice A2 l2.length c2] w fun e w' => ∃ v0_ v1_ : Value, e = .returned (.tuple #[v0_, v1_, .int .i64 r3]) ∧ Kd.R (Kd.int .i64) 3 w' w.heap.size (fun k_ => some k_ ≠ (v1_ : Value).ownBlock) v0_ r1 ∧ Kd.R (Kd.int .i64) 3 w' w.heap.size (fun k_ => some k_ ≠ (v0_ : Value).ownBlock) v1_ r2 ∧ Below w.heap.size w w' :=
  stereo_both.calls stereo_pair_add.f 64 _ Try.func64 (by kernel_rfl) rfl (fun a b s1 s2 w' hh => stereo_pair_add.calls a b s1 s2 w' hh) k A1 c1 l1 A2 c2 l2 r1 r2 r3 w hr1 hc1 hr2 hc2 h
theorem both_between (k : Nat) (A1 : Option Addr) (c1 : Nat) (l1 : List Int) (A2 : Option Addr) (c2 : Nat) (l2 : List Int) (r1 r2 : List Int) (r3 : Int) (w : World) (hr1 : Kd.C (Kd.int .i64) w A1 l1.length l1) (hc1 : l1.length ≤ c1) (hr2 : Kd.C (Kd.int .i64) w A2 l2.length l2) (hc2 : l2.length ≤ c2) (h : stereo_both.f stereo_pair_between.f k l1 l2 = some (r1, r2, r3)) :
    Calls Try.prog 44 #[.func (.func 65) #[] #[], .slice A1 l1.length c1, .slice A2 l2.length c2] w fun e w' => ∃ v0_ v1_ : Value, e = .returned (.tuple #[v0_, v1_, .int .i64 r3]) ∧ Kd.R (Kd.int .i64) 3 w' w.heap.size (fun k_ => some k_ ≠ (v1_ : Value).ownBlock) v0_ r1 ∧ Kd.R (Kd.int .i64) 3 w' w.heap.size (fun k_ => some k_ ≠ (v0_ : Value).ownBlock) v1_ r2 ∧ Below w.heap.size w w' :=
  stereo_both.calls stereo_pair_between.f 65 _ Try.func65 (by kernel_rfl) rfl (fun a b s1 s2 w' hh => stereo_pair_between.calls a b s1 s2 w' hh) k A1 c1 l1 A2 c2 l2 r1 r2 r3 w hr1 hc1 hr2 hc2 h
theorem both_apart (k : Nat) (A1 : Option Addr) (c1 : Nat) (l1 : List Int) (A2 : Option Addr) (c2 : Nat) (l2 : List Int) (r1 r2 : List Int) (r3 : Int) (w : World) (hr1 : Kd.C (Kd.int .i64) w A1 l1.length l1) (hc1 : l1.length ≤ c1) (hr2 : Kd.C (Kd.int .i64) w A2 l2.length l2) (hc2 : l2.length ≤ c2) (h : stereo_both.f stereo_pair_apart.f k l1 l2 = some (r1, r2, r3)) :
    Calls Try.prog 44 #[.func (.func 66) #[] #[], .slice A1 l1.length c1, .slice A2 l2.length c2] w fun e w' => ∃ v0_ v1_ : Value, e = .returned (.tuple #[v0_, v1_, .int .i64 r3]) ∧ Kd.R (Kd.int .i64) 3 w' w.heap.size (fun k_ => some k_ ≠ (v1_ : Value).ownBlock) v0_ r1 ∧ Kd.R (Kd.int .i64) 3 w' w.heap.size (fun k_ => some k_ ≠ (v0_ : Value).ownBlock) v1_ r2 ∧ Below w.heap.size w w' :=
  stereo_both.calls stereo_pair_apart.f 66 _ Try.func66 (by kernel_rfl) rfl (fun a b s1 s2 w' hh => stereo_pair_apart.calls a b s1 s2 w' hh) k A1 c1 l1 A2 c2 l2 r1 r2 r3 w hr1 hc1 hr2 hc2 h
def stereo_Split.f (k : Nat) (a0 : Int) (l1 : List Int) (l2 : List Int) : Option (List Int × List Int × Int) :=
  if a0 = 1 then stereo_both.f stereo_pair_same.f k l1 l2 else if a0 = 8 then stereo_both.f stereo_pair_less.f k l1 l2 else if a0 = 9 then stereo_both.f stereo_pair_more.f k l1 l2 else if a0 = 10 then stereo_both.f stereo_pair_between.f k l1 l2 else none
theorem stereo_Split.mono : ∀ a0 a1 a2 k, LeO (stereo_Split.f k a0 a1 a2) (stereo_Split.f (k + 1) a0 a1 a2) := by
  intro a0 a1 a2 k
  unfold stereo_Split.f
  repeat' first | exact stereo_both.mono _ _ _ _ | exact LeO.none _ | refine LeO.ite ?_ ?_
set_option maxHeartbeats 8000000 in
set_option maxRecDepth 100000 in
theorem stereo_Split.calls (k : Nat) (a0 : Int) (A1 : Option Addr) (c1 : Nat) (l1 : List Int) (A2 : Option Addr) (c2 : Nat) (l2 : List Int) (r1 : List Int) (r2 : List Int) (r3 : Int) (w : World) (hr1 : Kd.C (Kd.int .i64) w A1 l1.length l1) (hc1 : l1.length ≤ c1) (hr2 : Kd.C (Kd.int .i64) w A2 l2.length l2) (hc2 : l2.length ≤ c2) (h : stereo_Split.f k a0 l1 l2 = some (r1, r2, r3)) :
    Calls Try.prog 18 #[.int .i64 a0, .slice A1 l1.length c1, .slice A2 l2.length c2] w fun e w' => ∃ v0_ v1_ : Value, e = .returned (.tuple #[v0_, v1_, .int .i64 r3]) ∧ Kd.R (Kd.int .i64) 3 w' w.heap.size (fun k_ => some k_ ≠ (v1_ : Value).ownBlock) v0_ r1 ∧ Kd.R (Kd.int .i64) 3 w' w.heap.size (fun k_ => some k_ ≠ (v0_ : Value).ownBlock) v1_ r2 ∧ Below w.heap.size w w' := by
  unfold stereo_Split.f at h
  have HR1 := Aside0.mk hr1
  have HC1 := Aside0.mk hc1
  have HR2 := Aside0.mk hr2
  have HC2 := Aside0.mk hc2
  clear hr1 hc1 hr2 hc2
  by_cases e1 : a0 = 1
  · subst e1
    rw [if_pos rfl] at h
    have H := Aside0.mk h
    clear h
    go_enter Try.func18, Try.ntmps18
    go_wp2_with (first | (go_at_call 45; (with_reducible refine (way_1_0 _).mono ?_); rintro e w1 ⟨rfl, hb1⟩; have HB1 := Aside0.mk hb1; clear hb1) | (go_at_call 44; (with_reducible refine (both_same k A1 c1 l1 A2 c2 l2 r1 r2 r3 _ (Kd.C_below HR1.out HB1.out) HC1.out (Kd.C_below HR2.out HB1.out) HC2.out H.out).mono ?_); rintro e w2 ⟨v0_, v1_, rfl, h0_, h1_, hb2⟩; have H0 := Aside0.mk h0_; have H1 := Aside0.mk h1_; have HB2 := Aside0.mk hb2; clear h0_ h1_ hb2))
    go_ret3
    exact ⟨v0_, v1_, rfl, Kd.R_lower H0.out HB1.out.size, Kd.R_lower H1.out HB1.out.size, below_step HB1.out HB2.out⟩
  rw [if_neg e1] at h
  by_cases e8 : a0 = 8
  · subst e8
    rw [if_pos rfl] at h
    have H := Aside0.mk h
    clear h
    go_enter Try.func18, Try.ntmps18
    go_wp2_with (first | (go_at_call 45; (with_reducible refine (way_8_0 _).mono ?_); rintro e w1 ⟨rfl, hb1⟩; have HB1 := Aside0.mk hb1; clear hb1) | (go_at_call 44; (with_reducible refine (both_less k A1 c1 l1 A2 c2 l2 r1 r2 r3 _ (Kd.C_below HR1.out HB1.out) HC1.out (Kd.C_below HR2.out HB1.out) HC2.out H.out).mono ?_); rintro e w2 ⟨v0_, v1_, rfl, h0_, h1_, hb2⟩; have H0 := Aside0.mk h0_; have H1 := Aside0.mk h1_; have HB2 := Aside0.mk hb2; clear h0_ h1_ hb2))
    go_ret3
    exact ⟨v0_, v1_, rfl, Kd.R_lower H0.out HB1.out.size, Kd.R_lower H1.out HB1.out.size, below_step HB1.out HB2.out⟩
  rw [if_neg e8] at h
  by_cases e9 : a0 = 9
  · subst e9
    rw [if_pos rfl] at h
    have H := Aside0.mk h
    clear h
    go_enter Try.func18, Try.ntmps18
    go_wp2_with (first | (go_at_call 45; (with_reducible refine (way_9_0 _).mono ?_); rintro e w1 ⟨rfl, hb1⟩; have HB1 := Aside0.mk hb1; clear hb1) | (go_at_call 44; (with_reducible refine (both_more k A1 c1 l1 A2 c2 l2 r1 r2 r3 _ (Kd.C_below HR1.out HB1.out) HC1.out (Kd.C_below HR2.out HB1.out) HC2.out H.out).mono ?_); rintro e w2 ⟨v0_, v1_, rfl, h0_, h1_, hb2⟩; have H0 := Aside0.mk h0_; have H1 := Aside0.mk h1_; have HB2 := Aside0.mk hb2; clear h0_ h1_ hb2))
    go_ret3
    exact ⟨v0_, v1_, rfl, Kd.R_lower H0.out HB1.out.size, Kd.R_lower H1.out HB1.out.size, below_step HB1.out HB2.out⟩
  rw [if_neg e9] at h
  by_cases e10 : a0 = 10
  · subst e10
    rw [if_pos rfl] at h
    have H := Aside0.mk h
    clear h
    go_enter Try.func18, Try.ntmps18
    go_wp2_with (first | (go_at_call 45; (with_reducible refine (way_10_0 _).mono ?_); rintro e w1 ⟨rfl, hb1⟩; have HB1 := Aside0.mk hb1; clear hb1) | (go_at_call 44; (with_reducible refine (both_between k A1 c1 l1 A2 c2 l2 r1 r2 r3 _ (Kd.C_below HR1.out HB1.out) HC1.out (Kd.C_below HR2.out HB1.out) HC2.out H.out).mono ?_); rintro e w2 ⟨v0_, v1_, rfl, h0_, h1_, hb2⟩; have H0 := Aside0.mk h0_; have H1 := Aside0.mk h1_; have HB2 := Aside0.mk hb2; clear h0_ h1_ hb2))
    go_ret3
    exact ⟨v0_, v1_, rfl, Kd.R_lower H0.out HB1.out.size, Kd.R_lower H1.out HB1.out.size, below_step HB1.out HB2.out⟩
  rw [if_neg e10] at h
  exact absurd h (by simp)
def stereo_Join.f (k : Nat) (a0 : Int) (l1 : List Int) (l2 : List Int) : Option (List Int × List Int × Int) :=
  if a0 = 1 then stereo_both.f stereo_pair_same.f k l1 l2 else if a0 = 8 then stereo_both.f stereo_pair_less.f k l1 l2 else if a0 = 9 then stereo_both.f stereo_pair_add.f k l1 l2 else if a0 = 10 then stereo_both.f stereo_pair_apart.f k l1 l2 else none
theorem stereo_Join.mono : ∀ a0 a1 a2 k, LeO (stereo_Join.f k a0 a1 a2) (stereo_Join.f (k + 1) a0 a1 a2) := by
  intro a0 a1 a2 k
  unfold stereo_Join.f
  repeat' first | exact stereo_both.mono _ _ _ _ | exact LeO.none _ | refine LeO.ite ?_ ?_
set_option maxHeartbeats 8000000 in
set_option maxRecDepth 100000 in
theorem stereo_Join.calls (k : Nat) (a0 : Int) (A1 : Option Addr) (c1 : Nat) (l1 : List Int) (A2 : Option Addr) (c2 : Nat) (l2 : List Int) (r1 : List Int) (r2 : List Int) (r3 : Int) (w : World) (hr1 : Kd.C (Kd.int .i64) w A1 l1.length l1) (hc1 : l1.length ≤ c1) (hr2 : Kd.C (Kd.int .i64) w A2 l2.length l2) (hc2 : l2.length ≤ c2) (h : stereo_Join.f k a0 l1 l2 = some (r1, r2, r3)) :
    Calls Try.prog 17 #[.int .i64 a0, .slice A1 l1.length c1, .slice A2 l2.length c2] w fun e w' => ∃ v0_ v1_ : Value, e = .returned (.tuple #[v0_, v1_, .int .i64 r3]) ∧ Kd.R (Kd.int .i64) 3 w' w.heap.size (fun k_ => some k_ ≠ (v1_ : Value).ownBlock) v0_ r1 ∧ Kd.R (Kd.int .i64) 3 w' w.heap.size (fun k_ => some k_ ≠ (v0_ : Value).ownBlock) v1_ r2 ∧ Below w.heap.size w w' := by
  unfold stereo_Join.f at h
  have HR1 := Aside0.mk hr1
  have HC1 := Aside0.mk hc1
  have HR2 := Aside0.mk hr2
  have HC2 := Aside0.mk hc2
  clear hr1 hc1 hr2 hc2
  by_cases e1 : a0 = 1
  · subst e1
    rw [if_pos rfl] at h
    have H := Aside0.mk h
    clear h
    go_enter Try.func17, Try.ntmps17
    go_wp2_with (first | (go_at_call 45; (with_reducible refine (way_1_1 _).mono ?_); rintro e w1 ⟨rfl, hb1⟩; have HB1 := Aside0.mk hb1; clear hb1) | (go_at_call 44; (with_reducible refine (both_same k A1 c1 l1 A2 c2 l2 r1 r2 r3 _ (Kd.C_below HR1.out HB1.out) HC1.out (Kd.C_below HR2.out HB1.out) HC2.out H.out).mono ?_); rintro e w2 ⟨v0_, v1_, rfl, h0_, h1_, hb2⟩; have H0 := Aside0.mk h0_; have H1 := Aside0.mk h1_; have HB2 := Aside0.mk hb2; clear h0_ h1_ hb2))
    go_ret3
    exact ⟨v0_, v1_, rfl, Kd.R_lower H0.out HB1.out.size, Kd.R_lower H1.out HB1.out.size, below_step HB1.out HB2.out⟩
  rw [if_neg e1] at h
  by_cases e8 : a0 = 8
  · subst e8
    rw [if_pos rfl] at h
    have H := Aside0.mk h
    clear h
    go_enter Try.func17, Try.ntmps17
    go_wp2_with (first | (go_at_call 45; (with_reducible refine (way_8_1 _).mono ?_); rintro e w1 ⟨rfl, hb1⟩; have HB1 := Aside0.mk hb1; clear hb1) | (go_at_call 44; (with_reducible refine (both_less k A1 c1 l1 A2 c2 l2 r1 r2 r3 _ (Kd.C_below HR1.out HB1.out) HC1.out (Kd.C_below HR2.out HB1.out) HC2.out H.out).mono ?_); rintro e w2 ⟨v0_, v1_, rfl, h0_, h1_, hb2⟩; have H0 := Aside0.mk h0_; have H1 := Aside0.mk h1_; have HB2 := Aside0.mk hb2; clear h0_ h1_ hb2))
    go_ret3
    exact ⟨v0_, v1_, rfl, Kd.R_lower H0.out HB1.out.size, Kd.R_lower H1.out HB1.out.size, below_step HB1.out HB2.out⟩
  rw [if_neg e8] at h
  by_cases e9 : a0 = 9
  · subst e9
    rw [if_pos rfl] at h
    have H := Aside0.mk h
    clear h
    go_enter Try.func17, Try.ntmps17
    go_wp2_with (first | (go_at_call 45; (with_reducible refine (way_9_1 _).mono ?_); rintro e w1 ⟨rfl, hb1⟩; have HB1 := Aside0.mk hb1; clear hb1) | (go_at_call 44; (with_reducible refine (both_add k A1 c1 l1 A2 c2 l2 r1 r2 r3 _ (Kd.C_below HR1.out HB1.out) HC1.out (Kd.C_below HR2.out HB1.out) HC2.out H.out).mono ?_); rintro e w2 ⟨v0_, v1_, rfl, h0_, h1_, hb2⟩; have H0 := Aside0.mk h0_; have H1 := Aside0.mk h1_; have HB2 := Aside0.mk hb2; clear h0_ h1_ hb2))
    go_ret3
    exact ⟨v0_, v1_, rfl, Kd.R_lower H0.out HB1.out.size, Kd.R_lower H1.out HB1.out.size, below_step HB1.out HB2.out⟩
  rw [if_neg e9] at h
  by_cases e10 : a0 = 10
  · subst e10
    rw [if_pos rfl] at h
    have H := Aside0.mk h
    clear h
    go_enter Try.func17, Try.ntmps17
    go_wp2_with (first | (go_at_call 45; (with_reducible refine (way_10_1 _).mono ?_); rintro e w1 ⟨rfl, hb1⟩; have HB1 := Aside0.mk hb1; clear hb1) | (go_at_call 44; (with_reducible refine (both_apart k A1 c1 l1 A2 c2 l2 r1 r2 r3 _ (Kd.C_below HR1.out HB1.out) HC1.out (Kd.C_below HR2.out HB1.out) HC2.out H.out).mono ?_); rintro e w2 ⟨v0_, v1_, rfl, h0_, h1_, hb2⟩; have H0 := Aside0.mk h0_; have H1 := Aside0.mk h1_; have HB2 := Aside0.mk hb2; clear h0_ h1_ hb2))
    go_ret3
    exact ⟨v0_, v1_, rfl, Kd.R_lower H0.out HB1.out.size, Kd.R_lower H1.out HB1.out.size, below_step HB1.out HB2.out⟩
  rw [if_neg e10] at h
  exact absurd h (by simp)
end Go.Proofs.Ytgdgncdnhpflcaa.H
