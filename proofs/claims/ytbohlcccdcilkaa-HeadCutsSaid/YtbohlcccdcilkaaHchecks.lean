/- The check of 8 bits of bytes (checks.Eight): the tables that are built, the register's steps, the loop over the bytes, as plain functions, with the proofs that the program's calls come to them. For any bytes. -/
import Derived.Test.YtbohlcccdcilkaaProg
import Derived.Below
import Derived.Deep.Draws
import Derived.Deep.AppendLies
import Derived.Maps.AppendAt
import Derived.OwnWalk
import Derived.Laws.BytesArg
import Derived.Laws.MakeOwn
import Derived.Laws.OwnMore
import Derived.Deep.OwnRows
import Derived.Tactics
import Derived.Lib.ConvBytes
import Derived.Laws.Slices
import Derived.WalkKit
import Derived.KernelRfl
import Derived.RowKit3
import Derived.Deep.LoopGhost
import Derived.Deep.QuietTactic
import Derived.BigQuiet
import Derived.WideLaws
import Derived.Deep.DeepCutAuto
import Derived.Deep.CutBlock
import Derived.Deep.RegionHeld3
import Derived.Laws.Rows
import Derived.Lib.AppendStr
import Derived.ArgAppend
import Derived.Laws.IdiomCopy
import Derived.OrdersHeld
import Derived.Laws.BitsLemmas
import Derived.RowKit
import Derived.Test.YtbohlcccdcilkaaWWords
import Derived.Test.YtbohlcccdcilkaaWLast
import Derived.Test.YtbohlcccdcilkaaWTab
import Derived.Test.YtbohlcccdcilkaaWFour
import Derived.Test.YtbohlcccdcilkaaWQPut
import Derived.Test.YtbohlcccdcilkaaWApart
import Derived.Test.YtbohlcccdcilkaaWArr
import Derived.Test.YtbohlcccdcilkaaWZeros
import Derived.Test.YtbohlcccdcilkaaWFoot
import Derived.Test.YtbohlcccdcilkaaWKept
import Derived.Test.YtbohlcccdcilkaaWShare
import Derived.Test.YtbohlcccdcilkaaWN
import Derived.Test.YtbohlcccdcilkaaWFootNe
import Derived.Test.YtbohlcccdcilkaaWAt
import Derived.Test.YtbohlcccdcilkaaWEqStruct
import Derived.Test.YtbohlcccdcilkaaWRepsOne
import Derived.Test.YtbohlcccdcilkaaWInv
import Derived.Test.YtbohlcccdcilkaaWInvWords
import Derived.Test.YtbohlcccdcilkaaWGuard
import Derived.Test.YtbohlcccdcilkaaWNEv
import Derived.Test.YtbohlcccdcilkaaWMore
import Derived.LoopN
import Derived.RegionTactic
import Derived.BigRegion
import Derived.Laws.BitsLemmas
namespace Go.Proofs.Ytbohlcccdcilkaa.H
open Go.RowKit Go.Proofs.YtbohlcccdcilkaaW.PrintWords Go.Proofs.YtbohlcccdcilkaaW.PrintLast Go.Proofs.YtbohlcccdcilkaaW.PrintMore
attribute [local go_sem] max2_int min2_int max_two min_two max_three min_three max_four min_four   -- for this text's walks alone
set_option linter.unusedVariables false
set_option linter.unusedSimpArgs false
theorem goesV_ {P : Program} {ops : Array Oper} {Q : Exit → Act → World → Prop} {oi : Oper} {N : Option Tmp} {a : Act} {w : World} {K : Act → World → Prop} {f : FuncId} {fn : Func} {xs_ : Array Operand} {ts : Array TypeId} {s : Operand} (hf : P.funcs[f]? = some fn) (hname : (fn.name == "runtime.NumGoroutine") = false) (hb : fn.body.isSome = true) (args : Array Value)
    (hw : Region.wanted oi (yielded ops a.tmps) = true) (hN : oi.dst = N) (hs : a.eval s = .func (.func f) #[] #[]) (hop : oi.op = .call { callee := .value s, args := xs_, argTypes := ts }) (hargs : xs_.map a.eval = args)
    (h : Calls P f args w fun e w' => ∃ v, e = .returned v ∧ K (a.put N v) w') : if Region.wanted oi (yielded ops a.tmps) = true then Oper.wp P oi a w K Q else K (a.put N undef) w := by
  refine call_ f args hw hN ?_ h
  have he := enters_ hf hname hb args w
  unfold execOp
  simp [hop, resolve, Deferred.ofValue, invoke, hs, hargs, he]
def T8 : List Int := [0, 7, 14, 9, 28, 27, 18, 21, 56, 63, 54, 49, 36, 35, 42, 45]
def T16 : List Int := [0, 32773, 32783, 10, 32795, 30, 20, 32785, 32819, 54, 60, 32825, 40, 32813, 32807, 34]
def tabCells : Array Value := ((T8.map (fun x => Value.int .u8 x)) ++ (T16.map (fun x => Value.int .u16 x))).toArray
theorem blk_set' {w : World} {g : Nat} {t : TypeId} {cs : Array Value} (h : w.heap[g]? = some (.cells cs t (0, 0))) (i : Nat) (u : Value) : (w.setCell ⟨g, i, none⟩ u).heap[g]? = some (.cells (cs.setIfInBounds i u) t (0, 0)) := blk_set h i u
def BuildPost (w : World) (e : Ending) (w' : World) : Prop := e = .returned (.pointer (some ⟨w.heap.size, 0, none⟩)) ∧ w'.heap[w.heap.size]? = some (.cells tabCells 80 (0, 0)) ∧ Below w.heap.size w w'
set_option maxHeartbeats 40000000 in
set_option maxRecDepth 100000 in
theorem build_raw (w : World) : Calls Try.prog 55 #[] w (BuildPost w) := by
  go_enter Try.func55, Try.ntmps55
  go_wp2
  refine wp_loop_rounds 17 ?_
  iterate 16 (rw [rounds_succ]; go_wp2; refine wp_loop_rounds 5 ?_; (iterate 5 (rw [rounds_succ]; go_wp2)); go_region; go_wp2)
  rw [rounds_succ]
  go_wp2
  go_ret
  refine ⟨rfl, Eq.trans (b := some (.cells _ 80 (0, 0))) (by repeat (first | exact blk_new _ _ | apply blk_set' | apply blk_drewN | apply blk_drew)) (by kernel_rfl), ?_⟩
  repeat (first | exact Below.refl _ _ | apply below_alloc | apply pw_below_drewN | apply below_drew | (refine below_set ?_ (Nat.le_refl _)))
theorem build_calls (w : World) : Calls Try.prog 55 #[] w fun e w' => ∃ g, e = .returned (.pointer (some ⟨g, 0, none⟩)) ∧ w'.heap[g]? = some (.cells tabCells 80 (0, 0)) ∧ Below w.heap.size w w' :=
  (build_raw w).mono fun e w' h => ⟨_, h⟩
end Go.Proofs.Ytbohlcccdcilkaa.H
