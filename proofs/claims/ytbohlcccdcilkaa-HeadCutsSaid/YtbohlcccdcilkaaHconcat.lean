/- Rows of bytes, one behind the other (slices.Concat, slices.Grow at nil), with the proofs that the program's calls come to it. For rows of up to 100000 bytes together. -/
import Derived.Test.YtbohlcccdcilkaaProg
import Derived.Below
import Derived.Deep.Draws
import Derived.Deep.AppendLies
import Derived.Maps.AppendAt
import Derived.OwnWalk
import Derived.Laws.BytesArg
import Derived.Laws.MakeOwn
import Derived.Laws.OwnMore
import Derived.Deep.OwnRows
import Derived.Tactics
import Derived.Lib.ConvBytes
import Derived.Laws.Slices
import Derived.WalkKit
import Derived.KernelRfl
import Derived.RowKit3
import Derived.Deep.LoopGhost
import Derived.Deep.QuietTactic
import Derived.BigQuiet
import Derived.WideLaws
import Derived.Deep.DeepCutAuto
import Derived.Deep.CutBlock
import Derived.Deep.RegionHeld3
import Derived.Laws.Rows
import Derived.Lib.AppendStr
import Derived.ArgAppend
import Derived.Laws.IdiomCopy
import Derived.OrdersHeld
import Derived.Laws.BitsLemmas
import Derived.RowKit
import Derived.Test.YtbohlcccdcilkaaWWords
import Derived.Test.YtbohlcccdcilkaaWLast
import Derived.Test.YtbohlcccdcilkaaWTab
import Derived.Test.YtbohlcccdcilkaaWFour
import Derived.Test.YtbohlcccdcilkaaWQPut
import Derived.Test.YtbohlcccdcilkaaWApart
import Derived.Test.YtbohlcccdcilkaaWArr
import Derived.Test.YtbohlcccdcilkaaWZeros
import Derived.Test.YtbohlcccdcilkaaWFoot
import Derived.Test.YtbohlcccdcilkaaWKept
import Derived.Test.YtbohlcccdcilkaaWShare
import Derived.Test.YtbohlcccdcilkaaWN
import Derived.Test.YtbohlcccdcilkaaWFootNe
import Derived.Test.YtbohlcccdcilkaaWAt
import Derived.Test.YtbohlcccdcilkaaWEqStruct
import Derived.Test.YtbohlcccdcilkaaWRepsOne
import Derived.Test.YtbohlcccdcilkaaWInv
import Derived.Test.YtbohlcccdcilkaaWInvWords
import Derived.Test.YtbohlcccdcilkaaWGuard
import Derived.Test.YtbohlcccdcilkaaWNEv
import Derived.Test.YtbohlcccdcilkaaWMore
import Derived.Test.YtbohlcccdcilkaaHarr
namespace Go.Proofs.Ytbohlcccdcilkaa.H
open Go.RowKit Go.Proofs.YtbohlcccdcilkaaW.PrintWords Go.Proofs.YtbohlcccdcilkaaW.PrintLast Go.Proofs.YtbohlcccdcilkaaW.PrintMore
attribute [local go_sem] max2_int min2_int max_two min_two max_three min_three max_four min_four   -- for this text's walks alone
set_option linter.unusedVariables false
set_option linter.unusedSimpArgs false
theorem info5 : (Try.prog.info? 5).map (fun i => (i.zero, i.size, i.bytes)) = some (some (.int .u8 0), 1, 1) := by kernel_rfl
def RowPost (w : World) (l : List Int) (e : Ending) (w' : World) : Prop := ∃ v, e = .returned v ∧ Kd.R (Kd.int .u8) 5 w' w.heap.size (fun _ => True) v l ∧ Below w.heap.size w w'
theorem R_nil (w : World) (base : Nat) : Kd.R (Kd.int .u8) 5 w base (fun _ => True) (.slice none 0 0) ([] : List Int) := Kd.R_nil _ _ _ _ _
set_option maxHeartbeats 8000000 in
set_option maxRecDepth 100000 in
theorem grow_calls (w : World) (n : Int) (h0 : 0 ≤ n) (h1 : n ≤ 100000) : Calls Try.prog 49 #[.slice none 0 0, .int .i64 n] w (RowPost w []) := by
  by_cases hp : 0 < n
  · have c1 : decide (n < 0) = false := decide_eq_false (by omega)
    have c2 : decide (0 < n) = true := decide_eq_true hp
    have HN := Aside0.mk (R_nil w w.heap.size)
    go_enter Try.func49, Try.ntmps49
    go_wp2_with (first | ((with_reducible refine gate_builtin (b := .append) (xs := #[.tmp 20, .tmp 21]) rfl ?_); at_builtin; refine Kd.R_append_zeros (Kd.int .u8) (w0 := w) w.heap.size rfl (.tmp 20) (.tmp 21) 25 3 5 (.int .u8 0) 1 rfl Try.underlying25 Try.underlying3 info5 rfl (by decide) (by omega) _ [] 0 n (fun _ => True) rfl rfl rfl (fun _ _ => trivial) HN.out h0 (Below.refl _ _) (Nat.le_refl _) (by simp; omega) ?_; intro v1 w1 hr hb hg hat; clear hg hat; have HR := Aside0.mk hr; have HB := Aside0.mk hb; clear hr hb; obtain ⟨A1, c1_, e1⟩ := Kd.R_slice HR.out; subst e1))
    go_ret
    exact ⟨_, rfl, by simpa using Kd.R_take (m := 0) HR.out (Nat.zero_le _), HB.out⟩
  · obtain rfl : n = 0 := by omega
    go_enter Try.func49, Try.ntmps49
    go_wp2
    go_ret
    exact ⟨_, rfl, R_nil _ _, Below.refl _ _⟩
abbrev Rw := Option Addr × List Int × Nat
/-- Slices of bytes that stand in a row, each read as a list. -/
def RowsIn (w : World) (ad : Addr) (vs : List Rw) : Prop := ∀ (i : Nat) (h : i < vs.length), w.cell? (ad.add i) = some (.slice vs[i].1 vs[i].2.1.length vs[i].2.2) ∧ Kd.C (Kd.int .u8) w vs[i].1 vs[i].2.1.length vs[i].2.1
def flat (vs : List Rw) : List Int := vs.flatMap (fun v => v.2.1)
theorem flat_take {vs : List Rw} {k : Nat} (h : k < vs.length) : flat (vs.take (k + 1)) = flat (vs.take k) ++ vs[k].2.1 := by
  unfold flat
  rw [List.take_succ_eq_append_getElem h, List.flatMap_append, List.flatMap_singleton]
theorem flat_le (vs : List Rw) (k : Nat) : (flat (vs.take k)).length ≤ (flat vs).length := by
  conv => rhs; rw [← List.take_append_drop k vs]
  unfold flat
  rw [List.flatMap_append, List.length_append]
  omega
set_option maxHeartbeats 8000000 in
set_option maxRecDepth 100000 in
theorem concat_calls (w : World) (ad : Addr) (vs : List Rw) (cap : Nat) (hv : RowsIn w ad vs) (hn : vs.length ≤ 1000) (hl : (flat vs).length ≤ 100000) :
    Calls Try.prog 27 #[.slice (some ad) vs.length cap] w (RowPost w (flat vs)) := by
  have HV := Aside0.mk hv
  have HB0 := Aside0.mk (Below.refl w.heap.size w)
  clear hv
  go_enter Try.func27, Try.ntmps27
  go_wp2
  go_loop [3, 11] (fun s i => ∃ k : Nat, k ≤ vs.length ∧ i = .int .i64 k ∧ s = .int .i64 (flat (vs.take k)).length) (fun _ i => vs.length - (intOf i).toNat)
  case atStart => exact ⟨0, Nat.zero_le _, rfl, rfl⟩
  case round =>
    obtain ⟨k, hk, rfl, rfl⟩ := hrel
    by_cases hlt : k < vs.length
    · have c1 : decide ((k : Int) < (vs.length : Int)) = true := decide_eq_true (by omega)
      have c2 : decide (k < vs.length) = true := decide_eq_true (by omega)
      have hx := (HV.out k hlt).1
      have hf := congrArg List.length (flat_take hlt)
      have hle := flat_le vs (k + 1)
      rw [List.length_append] at hf
      have hf' := Aside0.mk hf
      have hb1 : (flat (vs.take k)).length + vs[k].2.1.length ≤ 100000 := by omega
      clear hf hle
      generalize vs[k] = x at hx hf' hb1
      obtain ⟨xa, xl, xc⟩ := x
      dsimp only at hx hb1
      generalize (flat (vs.take k)).length = q at hf' hb1
      go_wp2
      go_round
      case rel => exact ⟨k + 1, by omega, by go_num, by rw [hf'.out]; go_num⟩
      case measure => simp [intOf]; omega
    · obtain rfl : k = vs.length := by omega
      have c1 : decide ((vs.length : Int) < (vs.length : Int)) = false := decide_eq_false (by omega)
      have c2 : decide (vs.length < vs.length) = false := decide_eq_false (by omega)
      rw [List.take_length]
      generalize hQ : (flat vs).length = q at hl
      go_wp2_with (first | (go_at_call 49; (with_reducible refine (grow_calls _ (q : Int) (by omega) (by omega)).mono ?_); rintro e w1 ⟨v, rfl, hr, hb⟩; have HR := Aside0.mk hr; have HB := Aside0.mk hb; clear hr hb))
      go_loopw [6, 27] (fun v i wr => ∃ k : Nat, k ≤ vs.length ∧ i = .int .i64 k ∧ Aside0 (Kd.R (Kd.int .u8) 5 wr w.heap.size (fun _ => True) v (flat (vs.take k))) ∧ Aside0 (Below w.heap.size w wr)) (fun _ i _ => vs.length - (intOf i).toNat)
      case atStart => exact ⟨0, Nat.zero_le _, rfl, HR, HB⟩
      case round =>
        clear HR HB c1 c2
        obtain ⟨k, hk, rfl, HR, HB⟩ := hrel
        by_cases hlt : k < vs.length
        · have c1 : decide ((k : Int) < (vs.length : Int)) = true := decide_eq_true (by omega)
          have c2 : decide (k < vs.length) = true := decide_eq_true (by omega)
          have hx0 := (HV.out k hlt).1
          have hx := (HB.out.cell (World.block_lt_of_cell? w _ hx0)).trans hx0
          have HC := Aside0.mk (Kd.C_below (HV.out k hlt).2 HB.out)
          have hf := flat_take hlt
          have hle := flat_le vs (k + 1)
          rw [hf, List.length_append] at hle
          have hb1 : (flat (vs.take k)).length + vs[k].2.1.length ≤ 100000 := by omega
          have hf' := Aside0.mk hf
          clear hf hle hx0
          generalize vs[k] = x at hx hf' hb1 HC
          obtain ⟨xa, xl, xc⟩ := x
          dsimp only at hx hb1
          generalize flat (vs.take k) = q2 at hf' hb1 HR
          obtain ⟨A1, c1_, e1⟩ := Kd.R_slice HR.out
          subst e1
          go_wp2_with (first | ((with_reducible refine gate_builtin (b := .append) (xs := #[.tmp 31, .tmp 32]) rfl ?_); at_builtin; refine Kd.R_append_rows (Kd.int .u8) (w0 := w) w.heap.size rfl (.tmp 31) (.tmp 32) 25 5 (.int .u8 0) 1 rfl Try.underlying25 info5 rfl (by decide) (by omega) _ q2 xl _ _ _ (fun _ => True) (fun _ => False) rfl rfl HR.out HC.out (fun _ _ h => h) (fun _ h => h.elim) (fun _ _ => trivial) HB.out (HB.out.size) (by omega) ?_; intro v1 w1 hr hb hg hat; clear hg hat; have HR2 := Aside0.mk hr; have HB2 := Aside0.mk hb; clear hr hb))
          go_roundw
          case rel => exact ⟨k + 1, by omega, by go_num, ⟨by rw [hf'.out]; exact HR2.out⟩, HB2⟩
          case measure => simp [intOf]; omega
        · obtain rfl : k = vs.length := by omega
          have c1 : decide ((vs.length : Int) < (vs.length : Int)) = false := decide_eq_false (by omega)
          have c2 : decide (vs.length < vs.length) = false := decide_eq_false (by omega)
          rw [List.take_length] at HR
          go_wp2
          go_ret
          exact ⟨_, rfl, HR.out, HB.out⟩
end Go.Proofs.Ytbohlcccdcilkaa.H
