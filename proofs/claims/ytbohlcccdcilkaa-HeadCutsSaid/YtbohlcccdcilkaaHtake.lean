/- The header that bytes begin with (head.Take), as a plain function, with the proofs that the program's calls come to it. For any bytes. -/
import Derived.Test.YtbohlcccdcilkaaProg
import Derived.Below
import Derived.Deep.Draws
import Derived.Deep.AppendLies
import Derived.Maps.AppendAt
import Derived.OwnWalk
import Derived.Laws.BytesArg
import Derived.Laws.MakeOwn
import Derived.Laws.OwnMore
import Derived.Deep.OwnRows
import Derived.Tactics
import Derived.Lib.ConvBytes
import Derived.Laws.Slices
import Derived.WalkKit
import Derived.KernelRfl
import Derived.RowKit3
import Derived.Deep.LoopGhost
import Derived.Deep.QuietTactic
import Derived.BigQuiet
import Derived.WideLaws
import Derived.Deep.DeepCutAuto
import Derived.Deep.CutBlock
import Derived.Deep.RegionHeld3
import Derived.Laws.Rows
import Derived.Lib.AppendStr
import Derived.ArgAppend
import Derived.Laws.IdiomCopy
import Derived.OrdersHeld
import Derived.Laws.BitsLemmas
import Derived.RowKit
import Derived.Test.YtbohlcccdcilkaaWWords
import Derived.Test.YtbohlcccdcilkaaWLast
import Derived.Test.YtbohlcccdcilkaaWTab
import Derived.Test.YtbohlcccdcilkaaWFour
import Derived.Test.YtbohlcccdcilkaaWQPut
import Derived.Test.YtbohlcccdcilkaaWApart
import Derived.Test.YtbohlcccdcilkaaWArr
import Derived.Test.YtbohlcccdcilkaaWZeros
import Derived.Test.YtbohlcccdcilkaaWFoot
import Derived.Test.YtbohlcccdcilkaaWKept
import Derived.Test.YtbohlcccdcilkaaWShare
import Derived.Test.YtbohlcccdcilkaaWN
import Derived.Test.YtbohlcccdcilkaaWFootNe
import Derived.Test.YtbohlcccdcilkaaWAt
import Derived.Test.YtbohlcccdcilkaaWEqStruct
import Derived.Test.YtbohlcccdcilkaaWRepsOne
import Derived.Test.YtbohlcccdcilkaaWInv
import Derived.Test.YtbohlcccdcilkaaWInvWords
import Derived.Test.YtbohlcccdcilkaaWGuard
import Derived.Test.YtbohlcccdcilkaaWNEv
import Derived.Test.YtbohlcccdcilkaaWMore
import Derived.Deep.WholeRow
import Derived.Test.YtbohlcccdcilkaaHput
import Derived.Test.YtbohlcccdcilkaaHpre2
namespace Go.Proofs.Ytbohlcccdcilkaa.H
open Go.RowKit Go.Proofs.YtbohlcccdcilkaaW.PrintWords Go.Proofs.YtbohlcccdcilkaaW.PrintLast Go.Proofs.YtbohlcccdcilkaaW.PrintMore
attribute [local go_sem] max2_int min2_int max_two min_two max_three min_three max_four min_four   -- for this text's walks alone
set_option linter.unusedVariables false
set_option linter.unusedSimpArgs false
theorem results_c1t2 {P : Program} {fn : Func} {p a b : Tmp} {ty : TypeId} (h : fn.results = #[.cell p ty, .tmp a, .tmp b]) (tmps : Array Value) (w : World) (g : Nat) (t : TypeId) (cs : Array Value) (fr : Nat × Nat) (d : TypeDesc) (va vb : Value)
    (hp : tmps.getD p undef = .pointer (some ⟨g, 0, none⟩)) (ha : tmps.getD a undef = va) (hb : tmps.getD b undef = vb) (hg : w.heap[g]? = some (.cells cs t fr))
    (hu : P.underlying ty = some d) (hd : (match d with | .struct _ | .array _ _ => true | _ => false) = true) (hi : (P.info? ty).map (·.size) = some cs.size) :
    (results fn tmps).run P w = .ok (.tuple #[.agg cs, va, vb]) w := by
  have hp' : tmps[p]?.getD undef = .pointer (some ⟨g, 0, none⟩) := by simpa using hp
  have ha' : tmps[a]?.getD undef = va := by simpa using ha
  have hb' : tmps[b]?.getD undef = vb := by simpa using hb
  simp [results, h, hp', ha', hb', asAddr, run_loadVar_row w g t ty cs fr d hg hu hd hi]
def TakePost (w : World) (r : Array Value × Int × Int) (e : Ending) (w' : World) : Prop := e = .returned (.tuple #[.agg r.1, .int .i64 r.2.1, .int .i64 r.2.2]) ∧ Below w.heap.size w w'
abbrev hzero : Array Value := #[.int .i64 0, .int .i64 0, .int .i64 0, .int .i64 0, .int .i64 0, .bool false]
theorem size23 : (Try.prog.info? 23).map (·.size) = some 6 := by kernel_rfl
/-- The last step of Take: what stands in the block that is handed back. -/
theorem take_ret {w W : World} {r : Array Value × Int × Int} {a : Act} {t : TypeId} {fr : Nat × Nat} (hd : a.defers = []) (hp : a.tmps.getD 2 undef = .pointer (some ⟨w.heap.size, 0, none⟩)) (h3 : a.tmps.getD 3 undef = .int .i64 r.2.1) (h4 : a.tmps.getD 4 undef = .int .i64 r.2.2)
    (hg : W.heap[w.heap.size]? = some (.cells r.1 t fr)) (hs : r.1.size = 6) (hb : Below w.heap.size w W) : bodyPost Try.prog Try.f18 (TakePost w r) .ret a W :=
  bodyPost_ret (results_c1t2 rfl _ _ w.heap.size t r.1 fr _ _ _ hp h3 h4 hg Try.underlying23 rfl (by rw [hs]; exact size23)) hd ⟨rfl, hb⟩
set_option maxHeartbeats 8000000 in
set_option maxRecDepth 100000 in
theorem take_short (A : Option Addr) (l : List Int) (cap : Nat) (w : World) (h1 : l.length < 4) : Calls Try.prog 18 #[.slice A l.length cap] w (TakePost w (hzero, 0, 2)) := by
  have c1 : decide ((l.length : Int) < 4) = true := decide_eq_true (by omega)
  have c2 : decide (l.length < 4) = true := decide_eq_true h1
  go_enter Try.func18, Try.ntmps18
  go_wp2
  exact take_ret rfl rfl rfl rfl (heap_alloc_last w _) rfl ((Below.refl _ _).alloc (Nat.le_refl _) _)
theorem at4 {w : World} {A : Option Addr} {l : List Int} (hr : Kd.C (Kd.int .u8) w A l.length l) (h4 : 4 ≤ l.length) : ∃ ad : Addr, A = some ad ∧ w.cell? ad = some (.int .u8 (rd l 0)) ∧ w.cell? ⟨ad.block, ad.off + 1, none⟩ = some (.int .u8 (rd l 1)) ∧ w.cell? ⟨ad.block, ad.off + 2, none⟩ = some (.int .u8 (rd l 2)) ∧ w.cell? ⟨ad.block, ad.off + 3, none⟩ = some (.int .u8 (rd l 3)) := by
  obtain ⟨ad, e0, x0⟩ := Kd.at_int hr (0 : Int) (by omega) (by omega)
  obtain ⟨ad1, e1, x1⟩ := Kd.at_int hr (1 : Int) (by omega) (by omega)
  obtain ⟨ad2, e2, x2⟩ := Kd.at_int hr (2 : Int) (by omega) (by omega)
  obtain ⟨ad3, e3, x3⟩ := Kd.at_int hr (3 : Int) (by omega) (by omega)
  rw [e0] at e1 e2 e3
  cases e1; cases e2; cases e3
  refine ⟨ad, e0, ?_, ?_, ?_, ?_⟩
  · rw [show ((0 : Int)).toNat = 0 from rfl, Addr.add_zero'] at x0
    exact x0
  all_goals simp only [show ((1 : Int)).toNat = 1 from rfl, show ((2 : Int)).toNat = 2 from rfl, show ((3 : Int)).toNat = 3 from rfl, Nat.reduceMul, Nat.reduceEqDiff, Go.Addr.add, ↓reduceIte] at x1 x2 x3
  · exact x1
  · exact x2
  · exact x3
set_option maxHeartbeats 8000000 in
set_option maxRecDepth 100000 in
theorem take_magic1 (A : Option Addr) (l : List Int) (cap : Nat) (w : World) (hr : Kd.C (Kd.int .u8) w A l.length l) (h4 : 4 ≤ l.length) (h1 : rd l 0 ≠ 255) : Calls Try.prog 18 #[.slice A l.length cap] w (TakePost w (hzero, 0, 9)) := by
  obtain ⟨ad, rfl, x0, x1, x2, x3⟩ := at4 hr h4
  have c1 : decide ((l.length : Int) < 4) = false := decide_eq_false (by omega)
  have c2 : decide (l.length < 4) = false := decide_eq_false (by omega)
  have i0 : (0 < l.length) = True := eq_true (by omega)
  have i1 : (1 < l.length) = True := eq_true (by omega)
  have c3 : (rd l 0 != 255) = true := bne_iff_ne.mpr h1
  have y0 := fun o => cell_alloc x0 o
  have y1 := fun o => cell_alloc x1 o
  generalize rd l 0 = b0 at *
  clear hr h1
  go_enter Try.func18, Try.ntmps18
  go_wp2
  exact take_ret rfl rfl rfl rfl (heap_alloc_last w _) rfl ((Below.refl _ _).alloc (Nat.le_refl _) _)
set_option maxHeartbeats 8000000 in
set_option maxRecDepth 100000 in
theorem take_magic2 (A : Option Addr) (l : List Int) (cap : Nat) (w : World) (hr : Kd.C (Kd.int .u8) w A l.length l) (h4 : 4 ≤ l.length) (h0 : rd l 0 = 255) (h1 : Go.bits .andNot .u8 (rd l 1) 1 ≠ 248) : Calls Try.prog 18 #[.slice A l.length cap] w (TakePost w (hzero, 0, 9)) := by
  obtain ⟨ad, rfl, x0, x1, x2, x3⟩ := at4 hr h4
  have c1 : decide ((l.length : Int) < 4) = false := decide_eq_false (by omega)
  have c2 : decide (l.length < 4) = false := decide_eq_false (by omega)
  have i0 : (0 < l.length) = True := eq_true (by omega)
  have i1 : (1 < l.length) = True := eq_true (by omega)
  have c4 : (Go.bits .andNot .u8 (rd l 1) 1 != 248) = true := bne_iff_ne.mpr h1
  have y0 := fun o => cell_alloc x0 o
  have y1 := fun o => cell_alloc x1 o
  rw [h0] at x0 y0
  generalize rd l 1 = b1 at *
  clear hr h1
  go_enter Try.func18, Try.ntmps18
  go_wp2
  exact take_ret rfl rfl rfl rfl (heap_alloc_last w _) rfl ((Below.refl _ _).alloc (Nat.le_refl _) _)
def bC (l : List Int) : Int := wrap64 (rd l 2 / 16)
def rC (l : List Int) : Int := wrap64 (Go.bits .and .u8 (rd l 2) 15)
def mC (l : List Int) : Int := wrap64 (rd l 3 / 16)
def dC (l : List Int) : Int := wrap64 (Go.bits .and .u8 (rd l 3 / 2) 7)
def zC (l : List Int) : Int := Go.bits .and .u8 (rd l 3) 1
set_option maxHeartbeats 8000000 in
set_option maxRecDepth 100000 in
theorem take_code0 (A : Option Addr) (l : List Int) (cap : Nat) (w : World) (hr : Kd.C (Kd.int .u8) w A l.length l) (h4 : 4 ≤ l.length) (h0 : rd l 0 = 255) (h1 : Go.bits .andNot .u8 (rd l 1) 1 = 248)  (q0 : bC l = 0) : Calls Try.prog 18 #[.slice A l.length cap] w (TakePost w (hzero, 0, 5)) := by
  obtain ⟨ad, rfl, x0, x1, x2, x3⟩ := at4 hr h4
  have c1 : decide ((l.length : Int) < 4) = false := decide_eq_false (by omega)
  have c2 : decide (l.length < 4) = false := decide_eq_false (by omega)
  have i0 : (0 < l.length) = True := eq_true (by omega)
  have i1 : (1 < l.length) = True := eq_true (by omega)
  have i2 : (2 < l.length) = True := eq_true (by omega)
  have i3 : (3 < l.length) = True := eq_true (by omega)
  have j2 : ((2 : Int) < (l.length : Int)) = True := eq_true (by omega)
  have j3 : ((3 : Int) < (l.length : Int)) = True := eq_true (by omega)
  have y0 := fun o => cell_alloc x0 o
  have y1 := fun o => cell_alloc x1 o
  have y3 := fun o => cell_drew (cell_alloc x3 o)
  rw [h0] at x0 y0
  have e1 : wrap64 (rd l 2 / 16) = bC l := rfl
  have e2 : wrap64 (Go.bits .and .u8 (rd l 2) 15) = rC l := rfl
  have e3 : wrap64 (rd l 3 / 16) = mC l := rfl
  have e4 : wrap64 (Go.bits .and .u8 (rd l 3 / 2) 7) = dC l := rfl
  have e5 : Go.bits .and .u8 (rd l 3) 1 = zC l := rfl
  generalize rd l 1 = b1 at *
  generalize rd l 2 = b2 at *
  generalize rd l 3 = b3 at *
  have f0 : (bC l == 0) = true := beq_iff_eq.mpr q0
  generalize bC l = cb at *
  generalize rC l = cr at *
  generalize mC l = cm at *
  generalize dC l = cd at *
  generalize zC l = cz at *
  clear hr q0
  go_enter Try.func18, Try.ntmps18
  go_wp2
  have S2 := cell_drew (cell_alloc x2 (Obj.cells hzero 23 (0, 0)))
  have S3 := cell_drew (cell_alloc x3 (Obj.cells hzero 23 (0, 0)))
  go_region_held3 (fun W => W.cell? ⟨ad.block, ad.off + 2, none⟩ = some (.int .u8 b2) ∧ W.cell? ⟨ad.block, ad.off + 3, none⟩ = some (.int .u8 b3))
    (first | (go_keep; done) | (((try go_split_ands); (repeat' apply And.intro)) <;> first | assumption | exact cell_drew ‹_›))
    (fail)
  go_wp2
  exact take_ret rfl rfl rfl rfl (blk_drew (heap_alloc_last w _)) rfl (below_drew (below_alloc (Below.refl _ _) _))
set_option maxHeartbeats 8000000 in
set_option maxRecDepth 100000 in
theorem take_code1 (A : Option Addr) (l : List Int) (cap : Nat) (w : World) (hr : Kd.C (Kd.int .u8) w A l.length l) (h4 : 4 ≤ l.length) (h0 : rd l 0 = 255) (h1 : Go.bits .andNot .u8 (rd l 1) 1 = 248) (q0 : ¬ bC l = 0) (q1 : rC l = 15) : Calls Try.prog 18 #[.slice A l.length cap] w (TakePost w (hzero, 0, 5)) := by
  obtain ⟨ad, rfl, x0, x1, x2, x3⟩ := at4 hr h4
  have c1 : decide ((l.length : Int) < 4) = false := decide_eq_false (by omega)
  have c2 : decide (l.length < 4) = false := decide_eq_false (by omega)
  have i0 : (0 < l.length) = True := eq_true (by omega)
  have i1 : (1 < l.length) = True := eq_true (by omega)
  have i2 : (2 < l.length) = True := eq_true (by omega)
  have i3 : (3 < l.length) = True := eq_true (by omega)
  have j2 : ((2 : Int) < (l.length : Int)) = True := eq_true (by omega)
  have j3 : ((3 : Int) < (l.length : Int)) = True := eq_true (by omega)
  have y0 := fun o => cell_alloc x0 o
  have y1 := fun o => cell_alloc x1 o
  have y3 := fun o => cell_drew (cell_alloc x3 o)
  rw [h0] at x0 y0
  have e1 : wrap64 (rd l 2 / 16) = bC l := rfl
  have e2 : wrap64 (Go.bits .and .u8 (rd l 2) 15) = rC l := rfl
  have e3 : wrap64 (rd l 3 / 16) = mC l := rfl
  have e4 : wrap64 (Go.bits .and .u8 (rd l 3 / 2) 7) = dC l := rfl
  have e5 : Go.bits .and .u8 (rd l 3) 1 = zC l := rfl
  generalize rd l 1 = b1 at *
  generalize rd l 2 = b2 at *
  generalize rd l 3 = b3 at *
  have f0 : (bC l == 0) = false := beq_eq_false_iff_ne.mpr q0
  have f1 : (rC l == 15) = true := beq_iff_eq.mpr q1
  generalize bC l = cb at *
  generalize rC l = cr at *
  generalize mC l = cm at *
  generalize dC l = cd at *
  generalize zC l = cz at *
  clear hr q0 q1
  go_enter Try.func18, Try.ntmps18
  go_wp2
  have S2 := cell_drew (cell_alloc x2 (Obj.cells hzero 23 (0, 0)))
  have S3 := cell_drew (cell_alloc x3 (Obj.cells hzero 23 (0, 0)))
  go_region_held3 (fun W => W.cell? ⟨ad.block, ad.off + 2, none⟩ = some (.int .u8 b2) ∧ W.cell? ⟨ad.block, ad.off + 3, none⟩ = some (.int .u8 b3))
    (first | (go_keep; done) | (((try go_split_ands); (repeat' apply And.intro)) <;> first | assumption | exact cell_drew ‹_›))
    (fail)
  go_wp2
  exact take_ret rfl rfl rfl rfl (blk_drew (heap_alloc_last w _)) rfl (below_drew (below_alloc (Below.refl _ _) _))
set_option maxHeartbeats 8000000 in
set_option maxRecDepth 100000 in
theorem take_code2 (A : Option Addr) (l : List Int) (cap : Nat) (w : World) (hr : Kd.C (Kd.int .u8) w A l.length l) (h4 : 4 ≤ l.length) (h0 : rd l 0 = 255) (h1 : Go.bits .andNot .u8 (rd l 1) 1 = 248) (q0 : ¬ bC l = 0) (q1 : ¬ rC l = 15) (q2 : mC l ≥ 11) : Calls Try.prog 18 #[.slice A l.length cap] w (TakePost w (hzero, 0, 5)) := by
  obtain ⟨ad, rfl, x0, x1, x2, x3⟩ := at4 hr h4
  have c1 : decide ((l.length : Int) < 4) = false := decide_eq_false (by omega)
  have c2 : decide (l.length < 4) = false := decide_eq_false (by omega)
  have i0 : (0 < l.length) = True := eq_true (by omega)
  have i1 : (1 < l.length) = True := eq_true (by omega)
  have i2 : (2 < l.length) = True := eq_true (by omega)
  have i3 : (3 < l.length) = True := eq_true (by omega)
  have j2 : ((2 : Int) < (l.length : Int)) = True := eq_true (by omega)
  have j3 : ((3 : Int) < (l.length : Int)) = True := eq_true (by omega)
  have y0 := fun o => cell_alloc x0 o
  have y1 := fun o => cell_alloc x1 o
  have y3 := fun o => cell_drew (cell_alloc x3 o)
  rw [h0] at x0 y0
  have e1 : wrap64 (rd l 2 / 16) = bC l := rfl
  have e2 : wrap64 (Go.bits .and .u8 (rd l 2) 15) = rC l := rfl
  have e3 : wrap64 (rd l 3 / 16) = mC l := rfl
  have e4 : wrap64 (Go.bits .and .u8 (rd l 3 / 2) 7) = dC l := rfl
  have e5 : Go.bits .and .u8 (rd l 3) 1 = zC l := rfl
  generalize rd l 1 = b1 at *
  generalize rd l 2 = b2 at *
  generalize rd l 3 = b3 at *
  have f0 : (bC l == 0) = false := beq_eq_false_iff_ne.mpr q0
  have f1 : (rC l == 15) = false := beq_eq_false_iff_ne.mpr q1
  have f2 : decide (mC l ≥ 11) = true := decide_eq_true q2
  generalize bC l = cb at *
  generalize rC l = cr at *
  generalize mC l = cm at *
  generalize dC l = cd at *
  generalize zC l = cz at *
  clear hr q0 q1 q2
  go_enter Try.func18, Try.ntmps18
  go_wp2
  have S2 := cell_drew (cell_alloc x2 (Obj.cells hzero 23 (0, 0)))
  have S3 := cell_drew (cell_alloc x3 (Obj.cells hzero 23 (0, 0)))
  go_region_held3 (fun W => W.cell? ⟨ad.block, ad.off + 2, none⟩ = some (.int .u8 b2) ∧ W.cell? ⟨ad.block, ad.off + 3, none⟩ = some (.int .u8 b3))
    (first | (go_keep; done) | (((try go_split_ands); (repeat' apply And.intro)) <;> first | assumption | exact cell_drew ‹_›))
    (fail)
  go_wp2
  exact take_ret rfl rfl rfl rfl (blk_drew (heap_alloc_last w _)) rfl (below_drew (below_alloc (Below.refl _ _) _))
set_option maxHeartbeats 8000000 in
set_option maxRecDepth 100000 in
theorem take_code3 (A : Option Addr) (l : List Int) (cap : Nat) (w : World) (hr : Kd.C (Kd.int .u8) w A l.length l) (h4 : 4 ≤ l.length) (h0 : rd l 0 = 255) (h1 : Go.bits .andNot .u8 (rd l 1) 1 = 248) (q0 : ¬ bC l = 0) (q1 : ¬ rC l = 15) (q2 : ¬ mC l ≥ 11) (q3 : dC l = 3) : Calls Try.prog 18 #[.slice A l.length cap] w (TakePost w (hzero, 0, 5)) := by
  obtain ⟨ad, rfl, x0, x1, x2, x3⟩ := at4 hr h4
  have c1 : decide ((l.length : Int) < 4) = false := decide_eq_false (by omega)
  have c2 : decide (l.length < 4) = false := decide_eq_false (by omega)
  have i0 : (0 < l.length) = True := eq_true (by omega)
  have i1 : (1 < l.length) = True := eq_true (by omega)
  have i2 : (2 < l.length) = True := eq_true (by omega)
  have i3 : (3 < l.length) = True := eq_true (by omega)
  have j2 : ((2 : Int) < (l.length : Int)) = True := eq_true (by omega)
  have j3 : ((3 : Int) < (l.length : Int)) = True := eq_true (by omega)
  have y0 := fun o => cell_alloc x0 o
  have y1 := fun o => cell_alloc x1 o
  have y3 := fun o => cell_drew (cell_alloc x3 o)
  rw [h0] at x0 y0
  have e1 : wrap64 (rd l 2 / 16) = bC l := rfl
  have e2 : wrap64 (Go.bits .and .u8 (rd l 2) 15) = rC l := rfl
  have e3 : wrap64 (rd l 3 / 16) = mC l := rfl
  have e4 : wrap64 (Go.bits .and .u8 (rd l 3 / 2) 7) = dC l := rfl
  have e5 : Go.bits .and .u8 (rd l 3) 1 = zC l := rfl
  generalize rd l 1 = b1 at *
  generalize rd l 2 = b2 at *
  generalize rd l 3 = b3 at *
  have f0 : (bC l == 0) = false := beq_eq_false_iff_ne.mpr q0
  have f1 : (rC l == 15) = false := beq_eq_false_iff_ne.mpr q1
  have f2 : decide (mC l ≥ 11) = false := decide_eq_false q2
  have f3 : (dC l == 3) = true := beq_iff_eq.mpr q3
  generalize bC l = cb at *
  generalize rC l = cr at *
  generalize mC l = cm at *
  generalize dC l = cd at *
  generalize zC l = cz at *
  clear hr q0 q1 q2 q3
  go_enter Try.func18, Try.ntmps18
  go_wp2
  have S2 := cell_drew (cell_alloc x2 (Obj.cells hzero 23 (0, 0)))
  have S3 := cell_drew (cell_alloc x3 (Obj.cells hzero 23 (0, 0)))
  go_region_held3 (fun W => W.cell? ⟨ad.block, ad.off + 2, none⟩ = some (.int .u8 b2) ∧ W.cell? ⟨ad.block, ad.off + 3, none⟩ = some (.int .u8 b3))
    (first | (go_keep; done) | (((try go_split_ands); (repeat' apply And.intro)) <;> first | assumption | exact cell_drew ‹_›))
    (fail)
  go_wp2
  exact take_ret rfl rfl rfl rfl (blk_drew (heap_alloc_last w _)) rfl (below_drew (below_alloc (Below.refl _ _) _))
set_option maxHeartbeats 8000000 in
set_option maxRecDepth 100000 in
theorem take_code4 (A : Option Addr) (l : List Int) (cap : Nat) (w : World) (hr : Kd.C (Kd.int .u8) w A l.length l) (h4 : 4 ≤ l.length) (h0 : rd l 0 = 255) (h1 : Go.bits .andNot .u8 (rd l 1) 1 = 248) (q0 : ¬ bC l = 0) (q1 : ¬ rC l = 15) (q2 : ¬ mC l ≥ 11) (q3 : ¬ dC l = 3) (q4 : zC l = 1) : Calls Try.prog 18 #[.slice A l.length cap] w (TakePost w (hzero, 0, 5)) := by
  obtain ⟨ad, rfl, x0, x1, x2, x3⟩ := at4 hr h4
  have c1 : decide ((l.length : Int) < 4) = false := decide_eq_false (by omega)
  have c2 : decide (l.length < 4) = false := decide_eq_false (by omega)
  have i0 : (0 < l.length) = True := eq_true (by omega)
  have i1 : (1 < l.length) = True := eq_true (by omega)
  have i2 : (2 < l.length) = True := eq_true (by omega)
  have i3 : (3 < l.length) = True := eq_true (by omega)
  have j2 : ((2 : Int) < (l.length : Int)) = True := eq_true (by omega)
  have j3 : ((3 : Int) < (l.length : Int)) = True := eq_true (by omega)
  have y0 := fun o => cell_alloc x0 o
  have y1 := fun o => cell_alloc x1 o
  have y3 := fun o => cell_drew (cell_alloc x3 o)
  rw [h0] at x0 y0
  have e1 : wrap64 (rd l 2 / 16) = bC l := rfl
  have e2 : wrap64 (Go.bits .and .u8 (rd l 2) 15) = rC l := rfl
  have e3 : wrap64 (rd l 3 / 16) = mC l := rfl
  have e4 : wrap64 (Go.bits .and .u8 (rd l 3 / 2) 7) = dC l := rfl
  have e5 : Go.bits .and .u8 (rd l 3) 1 = zC l := rfl
  generalize rd l 1 = b1 at *
  generalize rd l 2 = b2 at *
  generalize rd l 3 = b3 at *
  have f0 : (bC l == 0) = false := beq_eq_false_iff_ne.mpr q0
  have f1 : (rC l == 15) = false := beq_eq_false_iff_ne.mpr q1
  have f2 : decide (mC l ≥ 11) = false := decide_eq_false q2
  have f3 : (dC l == 3) = false := beq_eq_false_iff_ne.mpr q3
  have f4 : (zC l == 1) = true := beq_iff_eq.mpr q4
  generalize bC l = cb at *
  generalize rC l = cr at *
  generalize mC l = cm at *
  generalize dC l = cd at *
  generalize zC l = cz at *
  clear hr q0 q1 q2 q3 q4
  go_enter Try.func18, Try.ntmps18
  go_wp2
  have S2 := cell_drew (cell_alloc x2 (Obj.cells hzero 23 (0, 0)))
  have S3 := cell_drew (cell_alloc x3 (Obj.cells hzero 23 (0, 0)))
  go_region_held3 (fun W => W.cell? ⟨ad.block, ad.off + 2, none⟩ = some (.int .u8 b2) ∧ W.cell? ⟨ad.block, ad.off + 3, none⟩ = some (.int .u8 b3))
    (first | (go_keep; done) | (((try go_split_ands); (repeat' apply And.intro)) <;> first | assumption | exact cell_drew ‹_›))
    (fail)
  go_wp2
  exact take_ret rfl rfl rfl rfl (blk_drew (heap_alloc_last w _)) rfl (below_drew (below_alloc (Below.refl _ _) _))
theorem add_add (ad : Addr) (n j : Nat) : (ad.add n).add j = ad.add (n + j) := by
  obtain ⟨b, o, e⟩ := ad
  unfold Addr.add
  by_cases hj : j = 0
  · subst hj
    simp
  · rw [if_neg hj, if_neg (show ¬ n + j = 0 by omega)]
    by_cases hn : n = 0
    · subst hn
      simp
    · rw [if_neg hn]
      simp [Nat.add_assoc]
theorem C_mid {w : World} {ad : Addr} {l : List Int} (h : Kd.C (Kd.int .u8) w (some ad) l.length l) (n m : Nat) (hn : n + m ≤ l.length) (hm : l.length ≤ 1000000) : Kd.C (Kd.int .u8) w (some (ad.add n)) ((l.drop n).take m).length ((l.drop n).take m) := by
  have hlen : ((l.drop n).take m).length = m := by rw [List.length_take, List.length_drop]; omega
  refine Kd.C_of_reads (d := (0 : Int)) (h1 := fun _ => rfl) ⟨rfl, by rw [hlen]; omega, fun hn' => ⟨_, rfl, fun j hj => ?_⟩⟩
  rw [hlen] at hj
  obtain ⟨ad', e1, hx⟩ := Kd.at_int h ((n + j : Nat) : Int) (by omega) (by omega)
  cases e1
  rw [add_add]
  rw [Int.toNat_natCast] at hx
  rw [hx, rd_at l (n + j) (by omega), List.getD_eq_getElem?_getD, List.getElem?_take_of_lt hj, List.getElem?_drop, List.getElem?_eq_getElem (by omega)]
  rfl
theorem C_drop {w : World} {ad : Addr} {l : List Int} (h : Kd.C (Kd.int .u8) w (some ad) l.length l) (n : Nat) (hn : n ≤ l.length) (hm : l.length ≤ 1000000) : Kd.C (Kd.int .u8) w (some (ad.add n)) (l.drop n).length (l.drop n) := by
  have := C_mid h n (l.length - n) (by omega) hm
  rwa [List.take_of_length_le (by rw [List.length_drop]; omega)] at this
theorem blk6 {W : World} {g t : Nat} (hg : W.heap[g]? = some (.cells hzero t (0, 0))) (v0 v1 v2 v3 v4 v5 : Value) :
    ((((((W.setCell ⟨g, 0, none⟩ v0).setCell ⟨g, 1, none⟩ v1).setCell ⟨g, 2, none⟩ v2).setCell ⟨g, 3, none⟩ v3).setCell ⟨g, 4, none⟩ v4).setCell ⟨g, 5, none⟩ v5).heap[g]? = some (.cells #[v0, v1, v2, v3, v4, v5] t (0, 0)) :=
  blk_set (blk_set (blk_set (blk_set (blk_set (blk_set hg 0 v0) 1 v1) 2 v2) 3 v3) 4 v4) 5 v5
theorem below6 {w W : World} {g : Nat} (h : Below w.heap.size w W) (hg : w.heap.size ≤ g) (v0 v1 v2 v3 v4 v5 : Value) :
    Below w.heap.size w ((((((W.setCell ⟨g, 0, none⟩ v0).setCell ⟨g, 1, none⟩ v1).setCell ⟨g, 2, none⟩ v2).setCell ⟨g, 3, none⟩ v3).setCell ⟨g, 4, none⟩ v4).setCell ⟨g, 5, none⟩ v5) :=
  below_set (below_set (below_set (below_set (below_set (below_set h hg) hg) hg) hg) hg) hg
theorem info5' : ∃ i, Try.prog.info? 5 = some i ∧ i.size = 1 := by
  have h := info5
  cases hh : Try.prog.info? 5 with
  | none => rw [hh] at h; cases h
  | some i => rw [hh] at h; simp at h; exact ⟨i, rfl, h.2.1⟩
theorem cut4 {w : World} {ad : Addr} {l : List Int} {cap : Nat} (hr : Kd.C (Kd.int .u8) w (some ad) l.length l) (h4 : 4 ≤ l.length) (hc : l.length ≤ cap) (hm : l.length ≤ 1000000) :
    ∃ A, (∀ W : World, (Instr.slice 25 (.slice (some ad) l.length cap) (some (.int .i64 4)) none none).run Try.prog W = .ok (.slice A (l.drop 4).length (cap - 4)) W) ∧ Kd.C (Kd.int .u8) w A (l.drop 4).length (l.drop 4) := by
  obtain ⟨i, hi, hs⟩ := info5'
  refine ⟨if cap = (4 : Int).toNat then some ad else (some ad).map (·.add ((4 : Int).toNat * 1)), fun W => ?_, ?_⟩
  · have h := cut_from (P := Try.prog) 25 5 .i64 Try.underlying25 hi 1 hs (some ad) l.length cap 4 (by omega) (by omega) W
    rw [List.length_drop]
    exact h
  · by_cases c : cap = 4
    · rw [if_pos (show cap = (4 : Int).toNat from c)]
      have e : l.drop 4 = [] := List.drop_eq_nil_of_le (by omega)
      rw [e]
      have h := C_mid hr 0 0 (by omega) hm
      simp only [List.take_zero, Addr.add_zero'] at h
      exact h
    · rw [if_neg (show ¬ cap = (4 : Int).toNat from c)]
      exact C_drop hr 4 h4 hm
set_option maxHeartbeats 8000000 in
set_option maxRecDepth 100000 in
theorem take_dec (k : Nat) (A : Option Addr) (l : List Int) (cap : Nat) (w : World) (n z e : Int) (hr : Kd.C (Kd.int .u8) w A l.length l) (hc : l.length ≤ cap) (hm : l.length ≤ 1000000) (h4 : 4 ≤ l.length) (h0 : rd l 0 = 255) (h1 : Go.bits .andNot .u8 (rd l 1) 1 = 248) (q0 : ¬ bC l = 0) (q1 : ¬ rC l = 15) (q2 : ¬ mC l ≥ 11) (q3 : ¬ dC l = 3) (q4 : ¬ zC l = 1)
    (hd : number_Decode.f k (l.drop 4) = some (n, z, e)) (he : e ≠ 0) : Calls Try.prog 18 #[.slice A l.length cap] w (TakePost w (hzero, 0, e)) := by
  obtain ⟨ad, rfl, x0, x1, x2, x3⟩ := at4 hr h4
  obtain ⟨A4, hcut, HC4⟩ := cut4 hr h4 hc hm
  have HD := Aside0.mk hd
  have HC := Aside0.mk HC4
  have HL := Aside0.mk (show (l.drop 4).length ≤ cap - 4 by rw [List.length_drop]; omega)
  clear hd HC4
  generalize l.drop 4 = l4 at *
  have g0 : (e != 0) = true := bne_iff_ne.mpr he
  have c1 : decide ((l.length : Int) < 4) = false := decide_eq_false (by omega)
  have c2 : decide (l.length < 4) = false := decide_eq_false (by omega)
  have i0 : (0 < l.length) = True := eq_true (by omega)
  have i1 : (1 < l.length) = True := eq_true (by omega)
  have i2 : (2 < l.length) = True := eq_true (by omega)
  have i3 : (3 < l.length) = True := eq_true (by omega)
  have j2 : ((2 : Int) < (l.length : Int)) = True := eq_true (by omega)
  have j3 : ((3 : Int) < (l.length : Int)) = True := eq_true (by omega)
  have y0 := fun o => cell_alloc x0 o
  have y1 := fun o => cell_alloc x1 o
  have y3 := fun o => cell_drew (cell_alloc x3 o)
  rw [h0] at x0 y0
  have e1 : wrap64 (rd l 2 / 16) = bC l := rfl
  have e2 : wrap64 (Go.bits .and .u8 (rd l 2) 15) = rC l := rfl
  have e3 : wrap64 (rd l 3 / 16) = mC l := rfl
  have e4 : wrap64 (Go.bits .and .u8 (rd l 3 / 2) 7) = dC l := rfl
  have e5 : Go.bits .and .u8 (rd l 3) 1 = zC l := rfl
  generalize rd l 1 = b1 at *
  generalize rd l 2 = b2 at *
  generalize rd l 3 = b3 at *
  have f0 : (bC l == 0) = false := beq_eq_false_iff_ne.mpr q0
  have f1 : (rC l == 15) = false := beq_eq_false_iff_ne.mpr q1
  have f2 : decide (mC l ≥ 11) = false := decide_eq_false q2
  have f3 : (dC l == 3) = false := beq_eq_false_iff_ne.mpr q3
  have f4 : (zC l == 1) = false := beq_eq_false_iff_ne.mpr q4
  generalize bC l = cb at *
  generalize rC l = cr at *
  generalize mC l = cm at *
  generalize dC l = cd at *
  generalize zC l = cz at *
  clear hr q0 q1 q2 q3 q4
  go_enter Try.func18, Try.ntmps18
  go_wp2
  have S2 := cell_drew (cell_alloc x2 (Obj.cells hzero 23 (0, 0)))
  have S3 := cell_drew (cell_alloc x3 (Obj.cells hzero 23 (0, 0)))
  go_region_held3 (fun W => W.cell? ⟨ad.block, ad.off + 2, none⟩ = some (.int .u8 b2) ∧ W.cell? ⟨ad.block, ad.off + 3, none⟩ = some (.int .u8 b3))
    (first | (go_keep; done) | (((try go_split_ands); (repeat' apply And.intro)) <;> first | assumption | exact cell_drew ‹_›))
    (fail)
  go_wp2_with (first | (go_at_call 34; (with_reducible refine (number_Decode.calls k A4 (cap - 4) l4 n z e _ (Kd.C_drew (Kd.C_alloc HC.out _)) HL.out HD.out).mono ?_); rintro e' w' ⟨rfl, ⟨nd, rfl⟩⟩))
  exact take_ret rfl rfl rfl rfl (blk6 (blk_below (heap_alloc_last w _) (pw_below_drewN (Below.refl _ _) _)) _ _ _ _ _ _) rfl (below6 (pw_below_drewN (below_alloc (Below.refl _ _) _) _) (Nat.le_refl _) _ _ _ _ _ _)
end Go.Proofs.Ytbohlcccdcilkaa.H
