/- A row's numbers, each shifted down (subframe.down), with the proof that the program's call comes to it. For any row of up to 2^40 numbers. -/
import Derived.Test.YtpeejdmbnlhjmaaProg
import Derived.Below
import Derived.Deep.Draws
import Derived.Deep.AppendLies
import Derived.Maps.AppendAt
import Derived.OwnWalk
import Derived.Laws.BytesArg
import Derived.Laws.MakeOwn
import Derived.Laws.OwnMore
import Derived.Deep.OwnRows
import Derived.Tactics
import Derived.Lib.ConvBytes
import Derived.Laws.Slices
import Derived.WalkKit
import Derived.KernelRfl
import Derived.RowKit3
import Derived.Deep.LoopGhost
import Derived.Deep.QuietTactic
import Derived.BigQuiet
import Derived.WideLaws
import Derived.Deep.DeepCutAuto
import Derived.Deep.CutBlock
import Derived.Deep.RegionHeld3
import Derived.Laws.Rows
import Derived.Lib.AppendStr
import Derived.ArgAppend
import Derived.Laws.IdiomCopy
import Derived.OrdersHeld
import Derived.Laws.BitsLemmas
import Derived.RowKit
import Derived.Test.YtpeejdmbnlhjmaaWWords
import Derived.Test.YtpeejdmbnlhjmaaWLast
import Derived.Test.YtpeejdmbnlhjmaaWTab
import Derived.Test.YtpeejdmbnlhjmaaWFour
import Derived.Test.YtpeejdmbnlhjmaaWQPut
import Derived.Test.YtpeejdmbnlhjmaaWApart
import Derived.Test.YtpeejdmbnlhjmaaWArr
import Derived.Test.YtpeejdmbnlhjmaaWZeros
import Derived.Test.YtpeejdmbnlhjmaaWFoot
import Derived.Test.YtpeejdmbnlhjmaaWKept
import Derived.Test.YtpeejdmbnlhjmaaWShare
import Derived.Test.YtpeejdmbnlhjmaaWN
import Derived.Test.YtpeejdmbnlhjmaaWFootNe
import Derived.Test.YtpeejdmbnlhjmaaWAt
import Derived.Test.YtpeejdmbnlhjmaaWEqStruct
import Derived.Test.YtpeejdmbnlhjmaaWRepsOne
import Derived.Test.YtpeejdmbnlhjmaaWInv
import Derived.Test.YtpeejdmbnlhjmaaWInvWords
import Derived.Test.YtpeejdmbnlhjmaaWGuard
import Derived.Test.YtpeejdmbnlhjmaaWNEv
import Derived.Test.YtpeejdmbnlhjmaaWMore
import Derived.Test.YtpeejdmbnlhjmaaSclone
import Derived.Test.YtpeejdmbnlhjmaaSfunc
namespace Go.Proofs.Ytpeejdmbnlhjmaa.H
open Go.RowKit Go.Proofs.YtpeejdmbnlhjmaaW.PrintWords Go.Proofs.YtpeejdmbnlhjmaaW.PrintLast Go.Proofs.YtpeejdmbnlhjmaaW.PrintMore
attribute [local go_sem] max2_int min2_int max_two min_two max_three min_three max_four min_four   -- for this text's walks alone
set_option linter.unusedVariables false
set_option linter.unusedSimpArgs false
def downBy (by_ : Int) : Nat := (max 0 (min by_ 32)).toNat
def downP (by_ : Int) (l : List Int) : List Int := l.map fun x => x / 2 ^ downBy by_
theorem downBy_le (by_ : Int) : downBy by_ ≤ 32 := by unfold downBy; omega
theorem irow_at {W : World} {base g n cap : Nat} {xs : List Int} (h : Kd.R (Kd.int .i64) 3 W base (fun _ => True) (.slice (some ⟨g, 0, none⟩) n cap) xs) (i : Nat) (hi : i < xs.length) :
    W.cell? ⟨g, i, none⟩ = some (.int .i64 (rd xs (i : Int))) ∧ W.frozen? ⟨g, i, none⟩ = false := by
  have e := (Kd.R_reads' h).1
  subst e
  have hc := Kd.R_cell (0 : Int) h (i : Int) (Int.natCast_nonneg _) (by omega)
  rw [Int.toNat_natCast] at hc
  exact hc
theorem irow_put {W : World} {base g n cap : Nat} {xs : List Int} (h : Kd.R (Kd.int .i64) 3 W base (fun _ => True) (.slice (some ⟨g, 0, none⟩) n cap) xs) (i : Nat) (x : Int) :
    Kd.R (Kd.int .i64) 3 (W.setCell ⟨g, i, none⟩ (.int .i64 x)) base (fun _ => True) (.slice (some ⟨g, 0, none⟩) n cap) (xs.set i x) := by
  have e := (Kd.R_reads' h).1
  subst e
  have hc := (Kd.R_put h (i : Int) x).1
  rw [Int.toNat_natCast] at hc
  exact hc
/-- The first k numbers are shifted. -/
def downTo (by_ : Int) (l : List Int) (k : Nat) : List Int := downP by_ (l.take k) ++ l.drop k
theorem downTo_len (by_ : Int) (l : List Int) (k : Nat) : (downTo by_ l k).length = l.length := by
  unfold downTo downP
  simp
  omega
theorem downTo_rd (by_ : Int) (l : List Int) (k : Nat) (h : k < l.length) : rd (downTo by_ l k) (k : Int) = l[k] := by
  unfold rd downTo downP
  rw [List.getD_eq_getElem?_getD, Int.toNat_natCast, List.getElem?_append_right (by simp only [List.length_map, List.length_take]; omega)]
  simp [Nat.min_eq_left (Nat.le_of_lt h), h]
theorem downBy_if (by_ : Int) : (if 0 < (if 32 < by_ then 32 else by_) then (if 32 < by_ then 32 else by_) else 0).toNat = downBy by_ := by
  unfold downBy
  repeat' split
  all_goals omega
theorem downTo_set (by_ : Int) (l : List Int) (k : Nat) (h : k < l.length) : (downTo by_ l k).set k (l[k] / 2 ^ downBy by_) = downTo by_ l (k + 1) := by
  unfold downTo downP
  have hk : ((l.take k).map fun x => x / 2 ^ downBy by_).length = k := by simp; omega
  rw [List.set_append_right _ _ (by omega), hk, Nat.sub_self, List.drop_eq_getElem_cons h, List.set_cons_zero, List.take_succ_eq_append_getElem h, List.map_append, List.append_assoc]
  rfl
def IRowPost (w : World) (l : List Int) (e : Ending) (w' : World) : Prop := ∃ v, e = .returned v ∧ Kd.R (Kd.int .i64) 3 w' w.heap.size (fun _ => True) v l ∧ Below w.heap.size w w'
theorem clone_calls (A0 : Option Addr) (c0 : Nat) (l0 : List Int) (w : World) (hl : l0.length ≤ 1000000000000) (hr0 : Kd.C (Kd.int .i64) w A0 l0.length l0) (hc0 : l0.length ≤ c0) : Calls Try.prog 79 #[.slice A0 l0.length c0] w (IRowPost w l0) :=
  slices_Clone_int_int.calls A0 c0 l0 l0 w hr0 hc0 (if_pos hl)
set_option maxHeartbeats 8000000 in
set_option maxRecDepth 100000 in
theorem down_calls (A0 : Option Addr) (c0 : Nat) (l : List Int) (by_ : Int) (w : World) (hl : l.length ≤ 1000000000000) (hr0 : Kd.C (Kd.int .i64) w A0 l.length l) (hc0 : l.length ≤ c0) :
    Calls Try.prog 86 #[.slice A0 l.length c0, .int .i64 by_] w (IRowPost w (downP by_ l)) := by
  have HR := Aside0.mk hr0
  have HC := Aside0.mk hc0
  clear hr0 hc0
  go_enter Try.func86, Try.ntmps86
  go_upto_block 0 with (first | (go_at_call 79; (with_reducible refine (clone_calls _ _ l _ hl HR.out HC.out).mono ?_); rintro e w1 ⟨v1, rfl, hr, hb⟩; obtain ⟨A1, c1, e1⟩ := Kd.R_slice hr; subst e1; have R1 := Aside0.mk hr; have HB1 := Aside0.mk hb; clear hr hb))
  go_wp2_with fail
  go_loopw [11] (fun i wr => ∃ k : Nat, k ≤ l.length ∧ i = .int .i64 k ∧ Aside0 (Kd.R (Kd.int .i64) 3 wr w.heap.size (fun _ => True) (.slice A1 l.length c1) (downTo by_ l k)) ∧ Aside0 (Below w.heap.size w wr)) (fun i _ => l.length - (intOf i).toNat)
  case atStart => exact ⟨0, Nat.zero_le _, rfl, R1, HB1⟩
  case round =>
    clear R1 HB1
    obtain ⟨k, hk, rfl, HRr, HBr⟩ := hrel
    by_cases hlt : k < l.length
    · have d1 : decide ((k : Int) < (l.length : Int)) = true := decide_eq_true (by omega)
      have d2 : decide (k < l.length) = true := decide_eq_true (by omega)
      obtain ⟨g, cap, hv, hge, _, _⟩ := Kd.R_form HRr.out (by rw [downTo_len]; omega)
      rw [downTo_len] at hv
      obtain ⟨rfl, _, rfl⟩ := Value.slice.inj hv
      have HGE := Aside0.mk hge
      clear hv hge
      obtain ⟨hx, hf⟩ := irow_at HRr.out k (by rw [downTo_len]; exact hlt)
      rw [downTo_rd by_ l k hlt] at hx
      have HS := Aside0.mk (downTo_set by_ l k hlt)
      generalize l[k] = x at hx HS
      have k1 : (0 : Int) ≤ (k : Int) := Int.natCast_nonneg _
      have k2 : (k : Int) < (l.length : Int) := by omega
      go_wp2_with fail
      refine ⟨⟨k + 1, by omega, by go_num, ⟨?_⟩, ⟨below_set HBr.out HGE.out⟩⟩, by simp [intOf]; omega⟩
      rw [← HS.out, ← downBy_if]
      exact irow_put HRr.out k _
    · obtain rfl : k = l.length := by omega
      have d1 : decide ((l.length : Int) < (l.length : Int)) = false := decide_eq_false (by omega)
      have d2 : decide (l.length < l.length) = false := decide_eq_false (by omega)
      have hR := HRr.out
      have hd : downTo by_ l l.length = downP by_ l := by unfold downTo; rw [List.take_length, List.drop_length, List.append_nil]
      rw [hd] at hR
      have HRe := Aside0.mk hR
      clear hR hd
      go_wp2_with fail
      go_ret
      exact ⟨_, rfl, HRe.out, HBr.out⟩
end Go.Proofs.Ytpeejdmbnlhjmaa.H
