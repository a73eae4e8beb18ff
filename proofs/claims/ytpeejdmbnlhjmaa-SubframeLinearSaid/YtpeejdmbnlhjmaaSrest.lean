/- What is left of a subframe of the kinds constant and verbatim (subframe.Rest): nothing, with the proof that the program's call comes to it. For any row of up to 2^40 numbers. -/
import Derived.Test.YtpeejdmbnlhjmaaProg
import Derived.Below
import Derived.Deep.Draws
import Derived.Deep.AppendLies
import Derived.Maps.AppendAt
import Derived.OwnWalk
import Derived.Laws.BytesArg
import Derived.Laws.MakeOwn
import Derived.Laws.OwnMore
import Derived.Deep.OwnRows
import Derived.Tactics
import Derived.Lib.ConvBytes
import Derived.Laws.Slices
import Derived.WalkKit
import Derived.KernelRfl
import Derived.RowKit3
import Derived.Deep.LoopGhost
import Derived.Deep.QuietTactic
import Derived.BigQuiet
import Derived.WideLaws
import Derived.Deep.DeepCutAuto
import Derived.Deep.CutBlock
import Derived.Deep.RegionHeld3
import Derived.Laws.Rows
import Derived.Lib.AppendStr
import Derived.ArgAppend
import Derived.Laws.IdiomCopy
import Derived.OrdersHeld
import Derived.Laws.BitsLemmas
import Derived.RowKit
import Derived.Test.YtpeejdmbnlhjmaaWWords
import Derived.Test.YtpeejdmbnlhjmaaWLast
import Derived.Test.YtpeejdmbnlhjmaaWTab
import Derived.Test.YtpeejdmbnlhjmaaWFour
import Derived.Test.YtpeejdmbnlhjmaaWQPut
import Derived.Test.YtpeejdmbnlhjmaaWApart
import Derived.Test.YtpeejdmbnlhjmaaWArr
import Derived.Test.YtpeejdmbnlhjmaaWZeros
import Derived.Test.YtpeejdmbnlhjmaaWFoot
import Derived.Test.YtpeejdmbnlhjmaaWKept
import Derived.Test.YtpeejdmbnlhjmaaWShare
import Derived.Test.YtpeejdmbnlhjmaaWN
import Derived.Test.YtpeejdmbnlhjmaaWFootNe
import Derived.Test.YtpeejdmbnlhjmaaWAt
import Derived.Test.YtpeejdmbnlhjmaaWEqStruct
import Derived.Test.YtpeejdmbnlhjmaaWRepsOne
import Derived.Test.YtpeejdmbnlhjmaaWInv
import Derived.Test.YtpeejdmbnlhjmaaWInvWords
import Derived.Test.YtpeejdmbnlhjmaaWGuard
import Derived.Test.YtpeejdmbnlhjmaaWNEv
import Derived.Test.YtpeejdmbnlhjmaaWMore
import Derived.Test.YtpeejdmbnlhjmaaSclone
import Derived.Test.YtpeejdmbnlhjmaaSfunc
import Derived.Test.YtpeejdmbnlhjmaaSdown
namespace Go.Proofs.Ytpeejdmbnlhjmaa.H
open Go.RowKit Go.Proofs.YtpeejdmbnlhjmaaW.PrintWords Go.Proofs.YtpeejdmbnlhjmaaW.PrintLast Go.Proofs.YtpeejdmbnlhjmaaW.PrintMore
attribute [local go_sem] max2_int min2_int max_two min_two max_three min_three max_four min_four   -- for this text's walks alone
set_option linter.unusedVariables false
set_option linter.unusedSimpArgs false
abbrev scells (K Wa O Sh Pr : Int) (Fa : Value) (Wd : Bool) (Po : Int) (Pa : Value) : Array Value := #[.int .i64 K, .int .i64 Wa, .int .i64 O, .int .i64 Sh, .int .i64 Pr, Fa, .bool Wd, .int .i64 Po, Pa]
theorem scell {w : World} {g : Nat} {K Wa O Sh Pr : Int} {Fa : Value} {Wd : Bool} {Po : Int} {Pa : Value} (h : w.heap[g]? = some (.cells (scells K Wa O Sh Pr Fa Wd Po Pa) 87 (0, 0))) :
    w.cell? ⟨g, 0, none⟩ = some (.int .i64 K) ∧ w.cell? ⟨g, 1, none⟩ = some (.int .i64 Wa) ∧ w.cell? ⟨g, 2, none⟩ = some (.int .i64 O) ∧ w.cell? ⟨g, 3, none⟩ = some (.int .i64 Sh) ∧ w.cell? ⟨g, 4, none⟩ = some (.int .i64 Pr) ∧ w.cell? ⟨g, 5, none⟩ = some Fa ∧ w.cell? ⟨g, 6, none⟩ = some (.bool Wd) ∧ w.cell? ⟨g, 7, none⟩ = some (.int .i64 Po) ∧ w.cell? ⟨g, 8, none⟩ = some Pa :=
  ⟨blk_cell h 0, blk_cell h 1, blk_cell h 2, blk_cell h 3, blk_cell h 4, blk_cell h 5, blk_cell h 6, blk_cell h 7, blk_cell h 8⟩
theorem contains_nil (w : World) : Calls Try.prog 127 #[.slice none 0 0, .func (.func 128) #[] #[]] w fun e w' => e = .returned (.bool false) ∧ w' = w := contains_wide w none [] 0 (Kd.C_nil _ _) (by simp)
def Rest0 (w : World) (e : Ending) (w' : World) : Prop := e = .returned (.tuple #[.slice none 0 0, .int .i64 0]) ∧ Below w.heap.size w w'
set_option maxHeartbeats 8000000 in
set_option maxRecDepth 100000 in
theorem rest_plain (A : Option Addr) (c : Nat) (l : List Int) (K Wa O Sh Pr : Int) (Fa : Value) (Wd : Bool) (Po : Int) (Pa : Value) (w : World) (hl : l.length ≤ 1000000000000) (hr : Kd.C (Kd.int .i64) w A l.length l) (hc : l.length ≤ c) (hK : K = 0 ∨ K = 1) (h1 : Fa.oneCell' = true) (h2 : Pa.oneCell' = true) :
    Calls Try.prog 77 #[.slice A l.length c, .agg (scells K Wa O Sh Pr Fa Wd Po Pa)] w (Rest0 w) := by
  have HR := Aside0.mk hr
  have HC := Aside0.mk hc
  clear hr hc
  rcases hK with rfl | rfl
  all_goals
    go_enter Try.func77, Try.ntmps77
    go_wp2_with (first
      | (go_at_call 86; (with_reducible refine (down_calls _ _ l Wa _ hl (Kd.C_alloc HR.out _) HC.out).mono ?_); rintro e w1 ⟨v1, rfl, hr1, hb⟩; have BK := Aside0.mk (blk_below (blk_new w _) hb); have HB := Aside0.mk (below_step (below_alloc (Below.refl _ _) _) hb); clear hb hr1; obtain ⟨x0, _⟩ := scell BK.out)
      | (go_at_call 127; (with_reducible refine (contains_nil _).mono ?_); rintro e w2 ⟨rfl, rfl⟩))
    go_ret2
    exact ⟨rfl, HB.out⟩
end Go.Proofs.Ytpeejdmbnlhjmaa.H
