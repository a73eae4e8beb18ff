/- The chapter's comment ("me", one field "A=b"): that it can be, and its bytes, with the proofs of the calls. -/
import Derived.Test.YtpeejdmbnlhjmaaProg
import Derived.Below
import Derived.Deep.Draws
import Derived.Deep.AppendLies
import Derived.Maps.AppendAt
import Derived.OwnWalk
import Derived.Laws.BytesArg
import Derived.Laws.MakeOwn
import Derived.Laws.OwnMore
import Derived.Deep.OwnRows
import Derived.Tactics
import Derived.Lib.ConvBytes
import Derived.Laws.Slices
import Derived.WalkKit
import Derived.KernelRfl
import Derived.RowKit3
import Derived.Deep.LoopGhost
import Derived.Deep.QuietTactic
import Derived.BigQuiet
import Derived.WideLaws
import Derived.Deep.DeepCutAuto
import Derived.Deep.CutBlock
import Derived.Deep.RegionHeld3
import Derived.Laws.Rows
import Derived.Lib.AppendStr
import Derived.ArgAppend
import Derived.Laws.IdiomCopy
import Derived.OrdersHeld
import Derived.Laws.BitsLemmas
import Derived.RowKit
import Derived.Test.YtpeejdmbnlhjmaaWWords
import Derived.Test.YtpeejdmbnlhjmaaWLast
import Derived.Test.YtpeejdmbnlhjmaaWTab
import Derived.Test.YtpeejdmbnlhjmaaWFour
import Derived.Test.YtpeejdmbnlhjmaaWQPut
import Derived.Test.YtpeejdmbnlhjmaaWApart
import Derived.Test.YtpeejdmbnlhjmaaWArr
import Derived.Test.YtpeejdmbnlhjmaaWZeros
import Derived.Test.YtpeejdmbnlhjmaaWFoot
import Derived.Test.YtpeejdmbnlhjmaaWKept
import Derived.Test.YtpeejdmbnlhjmaaWShare
import Derived.Test.YtpeejdmbnlhjmaaWN
import Derived.Test.YtpeejdmbnlhjmaaWFootNe
import Derived.Test.YtpeejdmbnlhjmaaWAt
import Derived.Test.YtpeejdmbnlhjmaaWEqStruct
import Derived.Test.YtpeejdmbnlhjmaaWRepsOne
import Derived.Test.YtpeejdmbnlhjmaaWInv
import Derived.Test.YtpeejdmbnlhjmaaWInvWords
import Derived.Test.YtpeejdmbnlhjmaaWGuard
import Derived.Test.YtpeejdmbnlhjmaaWNEv
import Derived.Test.YtpeejdmbnlhjmaaWMore
import Derived.LoopN
import Derived.Outline
import Derived.Test.YtpeejdmbnlhjmaaMfield
import Derived.Test.YtpeejdmbnlhjmaaSw
namespace Go.Proofs.Ytpeejdmbnlhjmaa.H
open Go.RowKit Go.Proofs.YtpeejdmbnlhjmaaW.PrintWords Go.Proofs.YtpeejdmbnlhjmaaW.PrintLast Go.Proofs.YtpeejdmbnlhjmaaW.PrintMore
attribute [local go_sem] max2_int min2_int max_two min_two max_three min_three max_four min_four   -- for this text's walks alone
set_option linter.unusedVariables false
set_option linter.unusedSimpArgs false
abbrev sMe : ByteArray := ⟨#[109, 101]⟩
abbrev sAb : ByteArray := ⟨#[65, 61, 98]⟩
theorem field_ab : fieldP sAb = true := by decide +kernel
theorem text_me : textP sMe = true := by decide +kernel
theorem closure_ab (w : World) : Calls Try.prog 158 #[.string sAb] w (BoolTo w false) := by
  go_enter Try.func158, Try.ntmps158
  go_wp2_with (first | (go_at_call 24; (with_reducible refine (field_calls sAb _ (by decide)).mono ?_); rintro e w1 ⟨rfl, hb⟩; rw [field_ab]; have HB := Aside0.mk hb; clear hb))
  go_ret
  exact ⟨rfl, HB.out⟩
/-- A row with one field. -/
def FBl (W : World) (g : Nat) : Prop := W.cell? ⟨g, 0, none⟩ = some (.string sAb)
theorem fbl_below {W W' : World} {g : Nat} (h : FBl W g) (hb : Below W.heap.size W W') : FBl W' g := (hb.cell (World.block_lt_of_cell? W _ h)).trans h
theorem fbl_alloc {W : World} {g : Nat} (h : FBl W g) (o : Obj) : FBl (W.alloc o) g := fbl_below h (below_alloc (Below.refl _ _) o)
def IntTo (w : World) (b : Int) (e : Ending) (w' : World) : Prop := e = .returned (.int .i64 b) ∧ Below w.heap.size w w'
set_option maxHeartbeats 8000000 in
theorem index_ab (w : World) (g c : Nat) (h : FBl w g) : Calls Try.prog 182 #[.slice (some ⟨g, 0, none⟩) 1 c, .func (.func 158) #[] #[]] w (IntTo w (-1)) := by
  have x0 : w.cell? ⟨g, 0, none⟩ = some (.string sAb) := h
  go_enter Try.func182, Try.ntmps182
  go_wp2
  refine wp_loop_rounds 2 ?_
  rw [rounds_succ]
  go_wp2_with (first | (go_at_call 158; (with_reducible refine (closure_ab _).mono ?_); rintro e w1 ⟨rfl, hb⟩; have HB := Aside0.mk hb; clear hb x0))
  rw [rounds_succ]
  go_wp2
  go_ret
  exact ⟨rfl, HB.out⟩
theorem contains_ab (w : World) (g c : Nat) (h : FBl w g) : Calls Try.prog 157 #[.slice (some ⟨g, 0, none⟩) 1 c, .func (.func 158) #[] #[]] w (BoolTo w false) := by
  have H := Aside0.mk h
  clear h
  go_enter Try.func157, Try.ntmps157
  go_wp2_with (first | (go_at_call 182; (with_reducible refine (index_ab _ g c H.out).mono ?_); rintro e w1 ⟨rfl, hb⟩; have HB := Aside0.mk hb; clear hb))
  go_ret
  exact ⟨rfl, HB.out⟩
set_option maxHeartbeats 8000000 in
theorem right_ab (w : World) (g c : Nat) (h : FBl w g) : Calls Try.prog 116 #[.agg #[.string sMe, .slice (some ⟨g, 0, none⟩) 1 c]] w (BoolTo w true) := by
  have H := Aside0.mk h
  have hb0 := blk_new w (.cells #[.string sMe, .slice (some ⟨g, 0, none⟩) 1 c] 36)
  have y0 : (w.alloc (.cells #[.string sMe, .slice (some ⟨g, 0, none⟩) 1 c] 36)).cell? ⟨g, 0, none⟩ = some (.string sAb) := fbl_alloc h _
  have x0 := (blk_cell hb0 0).trans rfl
  have x1 := (blk_cell hb0 1).trans rfl
  have HB0 := Aside0.mk hb0
  clear h hb0
  go_enter Try.func116, Try.ntmps116
  go_wp2
  refine wp_loop_rounds 2 ?_
  rw [rounds_succ]
  go_wp2
  rw [rounds_succ]
  go_wp2_with (first
    | (go_at_call 22; (with_reducible refine (text_calls sMe _ (by decide)).mono ?_); rintro e w1 ⟨rfl, hb⟩; rw [text_me]; have HB := Aside0.mk (below_step (below_alloc (Below.refl _ _) _) hb); have x0' := (blk_cell (blk_below HB0.out hb) 0).trans rfl; have x1' := (blk_cell (blk_below HB0.out hb) 1).trans rfl; have FB1 := Aside0.mk (show FBl w1 g from fbl_below (fbl_alloc H.out _) hb); clear hb)
    | (go_at_call 157; (with_reducible refine (contains_ab _ g c FB1.out).mono ?_); rintro e w2 ⟨rfl, hb⟩; have HB2 := Aside0.mk (below_step HB.out hb); clear hb))
  go_ret
  exact ⟨rfl, HB2.out⟩
def RowTo (w : World) (l : List Int) (e : Ending) (w' : World) : Prop := ∃ v, e = .returned v ∧ Kd.R (Kd.int .u8) 5 w' w.heap.size (fun _ => True) v l ∧ Below w.heap.size w w'
set_option maxHeartbeats 8000000 in
set_option maxRecDepth 100000 in
theorem little_calls (n : Int) (w : World) (hn : 0 ≤ n) : Calls Try.prog 159 #[.int .i64 n] w (RowTo w [n % 256, n / 256 % 256, n / 65536 % 256, n / 16777216 % 256]) := by
  have hmk : ∀ w, (Instr.makeSlice 22 (.int .i64 4) (.int .i64 4)).run Try.prog w = .ok (.slice (some ⟨w.heap.size, 0, none⟩) 4 4) (w.alloc (.cells #[.int .u8 0, .int .u8 0, .int .u8 0, .int .u8 0] 5)) := fun _ => by kernel_rfl
  go_enter Try.func159, Try.ntmps159
  go_wp2
  refine wp_loop_rounds 5 ?_
  rw [rounds_succ]
  go_wp2
  iterate 4 (rw [rounds_succ]; go_wp2)
  go_ret
  refine ⟨_, rfl, ?_, ?_⟩
  · exact R_of_blk (xs := [n % 256, n / 256 % 256, n / 65536 % 256, n / 16777216 % 256]) (blk_new w _) (Nat.le_refl _) (by simp)
  · exact below_alloc (Below.refl _ _) _
theorem strCells_bytes (s : ByteArray) : Lib.strCells s = (bytesOf s).map (fun x => Value.int .u8 x) := by
  simp [bytesOf, Lib.strCells]
theorem append_str_run {P : Program} {W : World} {e base : Nat} {v : Value} {xs : List Int} (t u ty : TypeId) (s : ByteArray) (ht : P.underlying t = some (.slice e)) (hu : P.underlying u = some .string) (hinfo : (P.info? e).map (fun i => (i.zero, i.size, i.bytes)) = some (some (.int .u8 0), 1, 1))
    (HO : Kd.R (Kd.int .u8) e W base (fun _ => True) v xs) (hbase : base ≤ W.heap.size) (hl : xs.length + s.size ≤ 140737488355328) :
    ∃ v1 w1, (Builtin.append_ #[t, u] ty #[v, .string s]).run P W = .ok v1 w1 ∧ Kd.R (Kd.int .u8) e w1 base (fun _ => True) v1 (xs ++ bytesOf s) ∧ W.grownBy w1 v.ownBlock := by
  obtain ⟨i0, hi, hzz⟩ := Option.map_eq_some_iff.1 hinfo
  simp only [Prod.mk.injEq] at hzz
  obtain ⟨hz0, hz1, hz2⟩ := hzz
  obtain ⟨h0, inner, hown, hr⟩ := HO
  obtain ⟨v1, w1, h1, h2, h3, _⟩ := Lib.run_append_own_string (P := P) W base t u ty e i0 ht hu hi hz0 hz1 hz2 v xs.length inner hown s (by simp only [maxLen]; omega) hl hbase
  refine ⟨v1, w1, h1, ⟨fun _ _ => trivial, inner ++ Lib.strCells s, ?_, ?_⟩, h3⟩
  · rw [List.length_append, bytesOf_length]
    exact h2
  · rw [strCells_bytes]
    exact Kd.reps_append hr (reps_ints _ _ _ _)
section
variable {P : Program} {ops : Array Oper} {o : Oper} {a : Act} {Q : Exit → Act → World → Prop} {Kc : Act → World → Prop} {rest : List Oper}
theorem R_append_str_step {w0 W : World} (base : Nat) (hw : Region.wanted o (yielded ops a.tmps) = true) (sl x : Operand) (t u e : TypeId)
    (ho : o.op = .call { callee := .builtin .append, args := #[sl, x], argTypes := #[t, u] })
    (ht : P.underlying t = some (.slice e)) (hu : P.underlying u = some .string) (hinfo : (P.info? e).map (fun i => (i.zero, i.size, i.bytes)) = some (some (.int .u8 0), 1, 1))
    (v : Value) (xs : List Int) (s : ByteArray) (hs : a.eval sl = v) (hx : a.eval x = .string s)
    (HO : Kd.R (Kd.int .u8) e W base (fun _ => True) v xs) (HB : Below base w0 W) (hbase : base ≤ W.heap.size) (hl : xs.length + s.size ≤ 140737488355328)
    (h : ∀ v1 w1, Kd.R (Kd.int .u8) e w1 base (fun _ => True) v1 (xs ++ bytesOf s) → Below base w0 w1 → W.grownBy w1 v.ownBlock → Kc (a.put o.dst v1) w1) :
    if Region.wanted o (yielded ops a.tmps) = true then Oper.wp P o a W Kc Q else Kc (a.put o.dst undef) W := by
  rw [if_pos hw]
  obtain ⟨v1, w1, h1, h2, h3⟩ := append_str_run t u o.type s ht hu hinfo HO hbase hl
  unfold Oper.wp execOp
  simp only [ho, resolve, invoke, builtin, Sem.run_bind, Sem.run_pure, Result.andThen_ok, List.map_toArray, List.map_cons, List.map_nil, hs, hx, h1]
  exact h v1 w1 h2 (HB.grown h3 hbase (fun k hk => by obtain ⟨_, inner, hown, _⟩ := HO; exact own_base hown k hk)) h3
theorem R_append_str {w0 W : World} (base : Nat) (hgd : o.guard = none) (sl x : Operand) (t u e : TypeId)
    (ho : o.op = .call { callee := .builtin .append, args := #[sl, x], argTypes := #[t, u] })
    (ht : P.underlying t = some (.slice e)) (hu : P.underlying u = some .string) (hinfo : (P.info? e).map (fun i => (i.zero, i.size, i.bytes)) = some (some (.int .u8 0), 1, 1))
    (v : Value) (xs : List Int) (s : ByteArray) (hs : a.eval sl = v) (hx : a.eval x = .string s)
    (HO : Kd.R (Kd.int .u8) e W base (fun _ => True) v xs) (HB : Below base w0 W) (hbase : base ≤ W.heap.size) (hl : xs.length + s.size ≤ 140737488355328)
    (h : ∀ v1 w1, Kd.R (Kd.int .u8) e w1 base (fun _ => True) v1 (xs ++ bytesOf s) → Below base w0 w1 → W.grownBy w1 v.ownBlock → wpList P ops Q rest (a.put o.dst v1) w1) :
    wpList P ops Q (o :: rest) a W := by
  refine wpList_plain hgd fun K hK => ?_
  obtain ⟨v1, w1, h1, h2, h3⟩ := append_str_run t u o.type s ht hu hinfo HO hbase hl
  unfold Oper.wp execOp
  simp only [ho, resolve, invoke, builtin, Sem.run_bind, Sem.run_pure, Result.andThen_ok, List.map_toArray, List.map_cons, List.map_nil, hs, hx, h1]
  exact hK _ _ (h v1 w1 h2 (HB.grown h3 hbase (fun k hk => by obtain ⟨_, inner, hown, _⟩ := HO; exact own_base hown k hk)) h3)
end
end Go.Proofs.Ytpeejdmbnlhjmaa.H
