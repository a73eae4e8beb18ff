/- A number's own code among codes (head.own), the codes of blocks, rates and depths, as plain functions, with the proofs that the program's calls come to them. For any number, any codes. -/
import Derived.Test.YtbohlcccdcilkaaProg
import Derived.Below
import Derived.Deep.Draws
import Derived.Deep.AppendLies
import Derived.Maps.AppendAt
import Derived.OwnWalk
import Derived.Laws.BytesArg
import Derived.Laws.MakeOwn
import Derived.Laws.OwnMore
import Derived.Deep.OwnRows
import Derived.Tactics
import Derived.Lib.ConvBytes
import Derived.Laws.Slices
import Derived.WalkKit
import Derived.KernelRfl
import Derived.RowKit3
import Derived.Deep.LoopGhost
import Derived.Deep.QuietTactic
import Derived.BigQuiet
import Derived.WideLaws
import Derived.Deep.DeepCutAuto
import Derived.Deep.CutBlock
import Derived.Deep.RegionHeld3
import Derived.Laws.Rows
import Derived.Lib.AppendStr
import Derived.ArgAppend
import Derived.Laws.IdiomCopy
import Derived.OrdersHeld
import Derived.Laws.BitsLemmas
import Derived.RowKit
import Derived.Test.YtbohlcccdcilkaaWWords
import Derived.Test.YtbohlcccdcilkaaWLast
import Derived.Test.YtbohlcccdcilkaaWTab
import Derived.Test.YtbohlcccdcilkaaWFour
import Derived.Test.YtbohlcccdcilkaaWQPut
import Derived.Test.YtbohlcccdcilkaaWApart
import Derived.Test.YtbohlcccdcilkaaWArr
import Derived.Test.YtbohlcccdcilkaaWZeros
import Derived.Test.YtbohlcccdcilkaaWFoot
import Derived.Test.YtbohlcccdcilkaaWKept
import Derived.Test.YtbohlcccdcilkaaWShare
import Derived.Test.YtbohlcccdcilkaaWN
import Derived.Test.YtbohlcccdcilkaaWFootNe
import Derived.Test.YtbohlcccdcilkaaWAt
import Derived.Test.YtbohlcccdcilkaaWEqStruct
import Derived.Test.YtbohlcccdcilkaaWRepsOne
import Derived.Test.YtbohlcccdcilkaaWInv
import Derived.Test.YtbohlcccdcilkaaWInvWords
import Derived.Test.YtbohlcccdcilkaaWGuard
import Derived.Test.YtbohlcccdcilkaaWNEv
import Derived.Test.YtbohlcccdcilkaaWMore
import Derived.Test.YtbohlcccdcilkaaHcrc
namespace Go.Proofs.Ytbohlcccdcilkaa.H
open Go.RowKit Go.Proofs.YtbohlcccdcilkaaW.PrintWords Go.Proofs.YtbohlcccdcilkaaW.PrintLast Go.Proofs.YtbohlcccdcilkaaW.PrintMore
attribute [local go_sem] max2_int min2_int max_two min_two max_three min_three max_four min_four   -- for this text's walks alone
set_option linter.unusedVariables false
set_option linter.unusedSimpArgs false
theorem own_pred (w : World) (g : Nat) (n x : Int) (hc : w.cell? ⟨g, 0, none⟩ = some (.int .i64 n)) :
    Calls Try.prog 48 #[.int .i64 x, .pointer (some ⟨g, 0, none⟩)] w fun e w' => e = .returned (.bool (decide (x = n ∧ 0 < n))) ∧ w' = w := by
  by_cases h1 : x = n
  · have c1 : (x == n) = true := beq_iff_eq.mpr h1
    by_cases h2 : 0 < n
    · have c2 : decide (0 < n) = true := decide_eq_true h2
      rw [decide_eq_true ⟨h1, h2⟩]
      clear h1 h2
      go_enter Try.func48, Try.ntmps48
      go_wp2
      go_ret
      exact ⟨by simp, rfl⟩
    · have c2 : decide (0 < n) = false := decide_eq_false h2
      rw [decide_eq_false (fun x => h2 x.2)]
      clear h1 h2
      go_enter Try.func48, Try.ntmps48
      go_wp2
      go_ret
      exact ⟨by simp, rfl⟩
  · have c1 : (x == n) = false := beq_eq_false_iff_ne.mpr h1
    rw [decide_eq_false (fun x => h1 x.1)]
    clear h1
    go_enter Try.func48, Try.ntmps48
    go_wp2
    go_ret
    exact ⟨by simp, rfl⟩
/-- Where a number stands, from a place on; below 0: nowhere, or it isn't above 0. -/
def ownAt (n : Int) : List Int → Int → Int
  | [], _ => -1
  | x :: l, i => if x = n ∧ 0 < n then i else ownAt n l (i + 1)
theorem own_step {n : Int} {l : List Int} {k : Nat} (h : k < l.length) : ownAt n (l.drop k) k = if l[k] = n ∧ 0 < n then (k : Int) else ownAt n (l.drop (k + 1)) (k + 1 : Nat) := by
  rw [List.drop_eq_getElem_cons h]
  rfl
def OwnPost (w : World) (r : Int) (e : Ending) (w' : World) : Prop := e = .returned (.int .i64 r) ∧ w' = w
set_option maxHeartbeats 8000000 in
set_option maxRecDepth 100000 in
theorem indexFunc (w : World) (g : Nat) (n : Int) (hc : w.cell? ⟨g, 0, none⟩ = some (.int .i64 n)) (A : Option Addr) (l : List Int) (cap : Nat) (hr : Kd.C (Kd.int .i64) w A l.length l) (hm : l.length ≤ 9223372036854775806) :
    Calls Try.prog 47 #[.slice A l.length cap, .func (.func 48) #[] #[.pointer (some ⟨g, 0, none⟩)]] w (OwnPost w (ownAt n l 0)) := by
  have HR := Aside0.mk hr
  have HC := Aside0.mk hc
  clear hr hc
  go_enter Try.func47, Try.ntmps47
  go_wp2
  go_loop [8] (fun i => ∃ k : Nat, k ≤ l.length ∧ i = .int .i64 k ∧ Aside0 (ownAt n l 0 = ownAt n (l.drop k) k)) (fun i => l.length - (intOf i).toNat)
  case atStart => exact ⟨0, Nat.zero_le _, rfl, ⟨rfl⟩⟩
  case round =>
    obtain ⟨k, hk, rfl, hq⟩ := hrel
    by_cases hlt : k < l.length
    · have c1 : decide ((k : Int) < (l.length : Int)) = true := decide_eq_true (by omega)
      have c2 : decide (k < l.length) = true := decide_eq_true (by omega)
      obtain ⟨ad, e1, hx⟩ := Kd.at_int HR.out (k : Int) (by omega) (by omega)
      cases e1
      rw [rd_at l k hlt, Int.toNat_natCast] at hx
      have hs := Aside0.mk (own_step (n := n) hlt)
      generalize l[k] = x at hx hs
      by_cases hp : x = n ∧ 0 < n
      · have P := own_pred w g n x HC.out
        rw [decide_eq_true hp] at P
        have hz := Aside0.mk (hq.out.trans (hs.out.trans (if_pos hp)))
        clear hp hq hs
        go_wp2_with (first | (go_at_call 48; (with_reducible refine P.mono ?_); rintro e w' ⟨rfl, rfl⟩))
        go_ret
        exact ⟨by rw [hz.out]; rfl, rfl⟩
      · have P := own_pred w g n x HC.out
        rw [decide_eq_false hp] at P
        have hz := Aside0.mk (hq.out.trans (hs.out.trans (if_neg hp)))
        clear hp hq hs
        go_wp2_with (first | (go_at_call 48; (with_reducible refine P.mono ?_); rintro e w' ⟨rfl, rfl⟩))
        go_round
        case rel => exact ⟨k + 1, by omega, by go_num, hz⟩
        case measure => simp [intOf]; omega
    · obtain rfl : k = l.length := by omega
      have c1 : decide ((l.length : Int) < (l.length : Int)) = false := decide_eq_false (by omega)
      have c2 : decide (l.length < l.length) = false := decide_eq_false (by omega)
      have hz := Aside0.mk (show ownAt n l 0 = -1 by rw [hq.out, List.drop_length]; rfl)
      clear hq
      go_wp2
      go_ret
      exact ⟨by rw [hz.out]; rfl, rfl⟩
def head_own.f (a0 : Int) (l1 : List Int) : Option Int := if l1.length ≤ 9223372036854775806 then some (mx 0 (ownAt a0 l1 0)) else none
set_option maxHeartbeats 8000000 in
set_option maxRecDepth 100000 in
theorem head_own.calls (a0 : Int) (A1 : Option Addr) (c1 : Nat) (l1 : List Int) (r : Int) (w : World) (hr1 : Kd.C (Kd.int .i64) w A1 l1.length l1) (hc1 : l1.length ≤ c1) (h : head_own.f a0 l1 = some r) :
    Calls Try.prog 26 #[.int .i64 a0, .slice A1 l1.length c1] w fun e w' => e = .returned (.int .i64 r) ∧ Below w.heap.size w w' := by
  unfold head_own.f at h
  split at h
  · rename_i hm
    obtain rfl := Option.some.inj h
    have HR := Aside0.mk hr1
    clear hr1 h
    go_enter Try.func26, Try.ntmps26
    go_wp2_with (first | (go_at_call 47; (with_reducible refine (indexFunc _ _ a0 (by simp) _ l1 _ (Kd.C_alloc HR.out _) hm).mono ?_); rintro e w1 ⟨rfl, rfl⟩))
    all_goals go_ret
    all_goals (have e : mx 0 (ownAt a0 l1 0) = (if 0 < ownAt a0 l1 0 then ownAt a0 l1 0 else 0) := by unfold mx; split <;> omega)
    · rw [e, if_pos (by assumption)]
      exact ⟨rfl, by repeat (first | exact Below.refl _ _ | apply below_alloc | apply pw_below_drewN | apply below_drew)⟩
    · rw [e, if_neg (by omega)]
      exact ⟨rfl, by repeat (first | exact Below.refl _ _ | apply below_alloc | apply pw_below_drewN | apply below_drew)⟩
  · cases h
end Go.Proofs.Ytbohlcccdcilkaa.H
