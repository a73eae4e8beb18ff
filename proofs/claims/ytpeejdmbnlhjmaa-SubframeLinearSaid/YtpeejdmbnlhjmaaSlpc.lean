/- A linear predictor: whether it can be (lpc.Check), and what it tells of numbers (lpc.teller.tell), as plain functions, with the proofs that the program's calls come to them. For any row. -/
import Derived.Test.YtpeejdmbnlhjmaaProg
import Derived.Below
import Derived.Deep.Draws
import Derived.Deep.AppendLies
import Derived.Maps.AppendAt
import Derived.OwnWalk
import Derived.Laws.BytesArg
import Derived.Laws.MakeOwn
import Derived.Laws.OwnMore
import Derived.Deep.OwnRows
import Derived.Tactics
import Derived.Lib.ConvBytes
import Derived.Laws.Slices
import Derived.WalkKit
import Derived.KernelRfl
import Derived.RowKit3
import Derived.Deep.LoopGhost
import Derived.Deep.QuietTactic
import Derived.BigQuiet
import Derived.WideLaws
import Derived.Deep.DeepCutAuto
import Derived.Deep.CutBlock
import Derived.Deep.RegionHeld3
import Derived.Laws.Rows
import Derived.Lib.AppendStr
import Derived.ArgAppend
import Derived.Laws.IdiomCopy
import Derived.OrdersHeld
import Derived.Laws.BitsLemmas
import Derived.RowKit
import Derived.Test.YtpeejdmbnlhjmaaWWords
import Derived.Test.YtpeejdmbnlhjmaaWLast
import Derived.Test.YtpeejdmbnlhjmaaWTab
import Derived.Test.YtpeejdmbnlhjmaaWFour
import Derived.Test.YtpeejdmbnlhjmaaWQPut
import Derived.Test.YtpeejdmbnlhjmaaWApart
import Derived.Test.YtpeejdmbnlhjmaaWArr
import Derived.Test.YtpeejdmbnlhjmaaWZeros
import Derived.Test.YtpeejdmbnlhjmaaWFoot
import Derived.Test.YtpeejdmbnlhjmaaWKept
import Derived.Test.YtpeejdmbnlhjmaaWShare
import Derived.Test.YtpeejdmbnlhjmaaWN
import Derived.Test.YtpeejdmbnlhjmaaWFootNe
import Derived.Test.YtpeejdmbnlhjmaaWAt
import Derived.Test.YtpeejdmbnlhjmaaWEqStruct
import Derived.Test.YtpeejdmbnlhjmaaWRepsOne
import Derived.Test.YtpeejdmbnlhjmaaWInv
import Derived.Test.YtpeejdmbnlhjmaaWInvWords
import Derived.Test.YtpeejdmbnlhjmaaWGuard
import Derived.Test.YtpeejdmbnlhjmaaWNEv
import Derived.Test.YtpeejdmbnlhjmaaWMore
import Derived.LoopN
import Derived.Test.YtpeejdmbnlhjmaaSfix
namespace Go.Proofs.Ytpeejdmbnlhjmaa.H
open Go.RowKit Go.Proofs.YtpeejdmbnlhjmaaW.PrintWords Go.Proofs.YtpeejdmbnlhjmaaW.PrintLast Go.Proofs.YtpeejdmbnlhjmaaW.PrintMore
attribute [local go_sem] max2_int min2_int max_two min_two max_three min_three max_four min_four   -- for this text's walks alone
set_option linter.unusedVariables false
set_option linter.unusedSimpArgs false
def inQ (n p : Int) : Bool := decide (n / 2 ^ (p - 1).toNat = 0) || decide (n / 2 ^ (p - 1).toNat = -1)
set_option maxHeartbeats 8000000 in
theorem in_calls (n p : Int) (w : World) (hp : 1 ≤ p ∧ p ≤ 62) : Calls Try.prog 124 #[.int .i64 n, .int .i64 p] w fun e w' => e = .returned (.bool (inQ n p)) ∧ w' = w := by
  have c1 : decide (p < 1) = false := decide_eq_false (by omega)
  have c2 : decide (p > 62) = false := decide_eq_false (by omega)
  have c3 : decide (62 < p) = false := c2
  obtain ⟨j, hj⟩ : ∃ j : Nat, p - 1 = (j : Int) := ⟨(p - 1).toNat, by omega⟩
  have e1 : IntKind.i64.wrap (j : Int) = (j : Int) := by rw [IntKind.wrap_i64]; omega
  have k1 : (0 : Int) ≤ (j : Int) := Int.natCast_nonneg _
  have HQ := Aside0.mk (show inQ n p = (decide (n / 2 ^ j = 0) || decide (n / 2 ^ j = -1)) by unfold inQ; rw [hj, Int.toNat_natCast])
  have k2 : (j : Int) < 64 := by omega
  generalize hs : n / 2 ^ j = s at HQ
  by_cases s0 : s = 0
  · have s1 : (s == 0) = true := beq_iff_eq.mpr s0
    go_enter Try.func124, Try.ntmps124
    go_wp2
    go_ret
    exact ⟨by rw [HQ.out, s0]; simp [hs, s0], rfl⟩
  · have s1 : (s == 0) = false := beq_eq_false_iff_ne.mpr s0
    go_enter Try.func124, Try.ntmps124
    go_wp2
    go_ret
    exact ⟨by rw [HQ.out]; simp only [s0, decide_false, Bool.false_or]; first | rfl | (simp [hs]; rfl) | (simp; exact (beq_eq_decide s (-1))) | (simp [beq_eq_decide]), rfl⟩
def offP (p n : Int) : Bool := !inQ n p
set_option maxHeartbeats 8000000 in
theorem off_calls (n p : Int) (g : Nat) (w : World) (hp : 1 ≤ p ∧ p ≤ 62) (x1 : w.cell? ⟨g, 1, none⟩ = some (.int .i64 p)) : Calls Try.prog 187 #[.int .i64 n, .pointer (some ⟨g, 0, none⟩)] w fun e w' => e = .returned (.bool (offP p n)) ∧ w' = w := by
  go_enter Try.func187, Try.ntmps187
  go_wp2_with (first | (go_at_call 124; (with_reducible refine (in_calls _ _ _ hp).mono ?_); rintro e w1 ⟨rfl, rfl⟩))
  go_ret
  exact ⟨rfl, rfl⟩
set_option maxHeartbeats 8000000 in
set_option maxRecDepth 100000 in
theorem index_off (w : World) (A : Option Addr) (l : List Int) (cap : Nat) (p : Int) (g : Nat) (hp : 1 ≤ p ∧ p ≤ 62) (x1 : w.cell? ⟨g, 1, none⟩ = some (.int .i64 p)) (hr : Kd.C (Kd.int .i64) w A l.length l) (hm : l.length ≤ 9223372036854775806) :
    Calls Try.prog 164 #[.slice A l.length cap, .func (.func 187) #[] #[.pointer (some ⟨g, 0, none⟩)]] w fun e w' => e = .returned (.int .i64 (firstAt (offP p) l 0)) ∧ w' = w := by
  have HR := Aside0.mk hr
  have HP := Aside0.mk hp
  have X1 := Aside0.mk x1
  clear hr hp x1
  go_enter Try.func164, Try.ntmps164
  go_wp2
  go_loop [8] (fun i => ∃ k : Nat, k ≤ l.length ∧ i = .int .i64 k ∧ Aside0 (firstAt (offP p) l 0 = firstAt (offP p) (l.drop k) k)) (fun i => l.length - (intOf i).toNat)
  case atStart => exact ⟨0, Nat.zero_le _, rfl, ⟨rfl⟩⟩
  case round =>
    obtain ⟨k, hk, rfl, hq⟩ := hrel
    by_cases hlt : k < l.length
    · have c1 : decide ((k : Int) < (l.length : Int)) = true := decide_eq_true (by omega)
      have c2 : decide (k < l.length) = true := decide_eq_true (by omega)
      obtain ⟨ad, e1, hx⟩ := Kd.at_int HR.out (k : Int) (by omega) (by omega)
      cases e1
      rw [rd_at l k hlt, Int.toNat_natCast] at hx
      have hs := Aside0.mk (first_step (offP p) hlt)
      generalize l[k] = x at hx hs
      by_cases hp : offP p x = true
      · have hz := Aside0.mk (hq.out.trans (hs.out.trans (if_pos hp)))
        clear hs hq
        go_wp2_with (first | (go_at_call 187; (with_reducible refine (off_calls _ p g _ HP.out X1.out).mono ?_); rintro e w' ⟨rfl, rfl⟩))
        go_ret
        exact ⟨by rw [hz.out]; rfl, rfl⟩
      · have hz := Aside0.mk (hq.out.trans (hs.out.trans (if_neg hp)))
        replace hp := Bool.eq_false_iff.mpr hp
        clear hs hq
        go_wp2_with (first | (go_at_call 187; (with_reducible refine (off_calls _ p g _ HP.out X1.out).mono ?_); rintro e w' ⟨rfl, rfl⟩))
        go_round
        case rel => exact ⟨k + 1, by omega, by go_num, hz⟩
        case measure => simp [intOf]; omega
    · obtain rfl : k = l.length := by omega
      have c1 : decide ((l.length : Int) < (l.length : Int)) = false := decide_eq_false (by omega)
      have c2 : decide (l.length < l.length) = false := decide_eq_false (by omega)
      have hz := Aside0.mk (show firstAt (offP p) l 0 = -1 by rw [hq.out, List.drop_length]; rfl)
      clear hq
      go_wp2
      go_ret
      exact ⟨by rw [hz.out]; rfl, rfl⟩
set_option maxHeartbeats 8000000 in
theorem contains_off (w : World) (A : Option Addr) (l : List Int) (cap : Nat) (p : Int) (g : Nat) (hp : 1 ≤ p ∧ p ≤ 62) (x1 : w.cell? ⟨g, 1, none⟩ = some (.int .i64 p)) (hr : Kd.C (Kd.int .i64) w A l.length l) (hm : l.length ≤ 9223372036854775806) :
    Calls Try.prog 127 #[.slice A l.length cap, .func (.func 187) #[] #[.pointer (some ⟨g, 0, none⟩)]] w fun e w' => e = .returned (.bool (l.any (offP p))) ∧ w' = w := by
  have HR := Aside0.mk hr
  have X1 := Aside0.mk x1
  have hf := firstAt_any (offP p) l 0 (by omega)
  have hf1 := Aside0.mk hf.1
  clear hr hf x1
  go_enter Try.func127, Try.ntmps127
  go_wp2_with (first | (go_at_call 164; (with_reducible refine (index_off _ _ l _ p g hp X1.out HR.out hm).mono ?_); rintro e w1 ⟨rfl, rfl⟩))
  go_ret
  exact ⟨by rw [← hf1.out]; rfl, rfl⟩
def checkP (sh p : Int) (l : List Int) : Int := if l.length < 1 ∨ 32 < l.length ∨ p < 1 ∨ 15 < p ∨ sh < 0 ∨ 15 < sh then 1 else if l.any (offP p) = true then 1 else 0
abbrev lpcV (sh p : Int) (A : Option Addr) (n c : Nat) : Value := .agg #[.int .i64 sh, .int .i64 p, .slice A n c]
theorem lpc_cells (w : World) (sh p : Int) (v : Value) (t : TypeId) : (w.alloc (.cells #[.int .i64 sh, .int .i64 p, v] t)).cell? ⟨w.heap.size, 0, none⟩ = some (.int .i64 sh) ∧ (w.alloc (.cells #[.int .i64 sh, .int .i64 p, v] t)).cell? ⟨w.heap.size, 1, none⟩ = some (.int .i64 p) ∧
    (w.alloc (.cells #[.int .i64 sh, .int .i64 p, v] t)).cell? ⟨w.heap.size, 2, none⟩ = some v := ⟨(blk_cell (blk_new w _) 0).trans rfl, (blk_cell (blk_new w _) 1).trans rfl, (blk_cell (blk_new w _) 2).trans rfl⟩
def IntTo (w : World) (b : Int) (e : Ending) (w' : World) : Prop := e = .returned (.int .i64 b) ∧ Below w.heap.size w w'
set_option maxHeartbeats 8000000 in
set_option maxRecDepth 100000 in
theorem check_calls (w : World) (sh p : Int) (A : Option Addr) (l : List Int) (c : Nat) (hr : Kd.C (Kd.int .i64) w A l.length l) (hm : l.length ≤ 1000000000000) : Calls Try.prog 162 #[lpcV sh p A l.length c] w (IntTo w (checkP sh p l)) := by
  have hmf : ∀ (fn : Fn) (first cap : Array Value) (w : World), (Instr.makeFunc fn first cap).run Try.prog w = .ok (.func fn first cap) w := fun _ _ _ _ => rfl
  have HB := Aside0.mk (below_alloc (Below.refl w.heap.size w) (.cells #[.int .i64 sh, .int .i64 p, .slice A l.length c] 82))
  have HR := Aside0.mk (Kd.C_alloc hr (.cells #[.int .i64 sh, .int .i64 p, .slice A l.length c] 82))
  obtain ⟨x0, x1, x2⟩ := lpc_cells w sh p (.slice A l.length c) 82
  have X1 := Aside0.mk x1
  clear hr
  by_cases c1 : l.length < 1
  · have e : checkP sh p l = 1 := if_pos (by omega)
    rw [e]
    have d1 := decide_eq_true c1
    have d2 : decide ((l.length : Int) < 1) = true := decide_eq_true (by omega)
    go_enter Try.func162, Try.ntmps162
    go_wp2
    go_ret
    exact ⟨rfl, HB.out⟩
  have d1 := decide_eq_false c1
  have d2 : decide ((l.length : Int) < 1) = false := decide_eq_false (by omega)
  by_cases c2 : 32 < l.length
  · have e : checkP sh p l = 1 := if_pos (by omega)
    rw [e]
    have d3 := decide_eq_true c2
    have d4 : decide ((l.length : Int) > 32) = true := decide_eq_true (by omega)
    have d5 : decide (32 < (l.length : Int)) = true := d4
    go_enter Try.func162, Try.ntmps162
    go_wp2
    go_ret
    exact ⟨rfl, HB.out⟩
  have d3 := decide_eq_false c2
  have d4 : decide ((l.length : Int) > 32) = false := decide_eq_false (by omega)
  have d5 : decide (32 < (l.length : Int)) = false := d4
  by_cases c3 : p < 1
  · have e : checkP sh p l = 1 := if_pos (by omega)
    rw [e]
    have d6 := decide_eq_true c3
    go_enter Try.func162, Try.ntmps162
    go_wp2
    go_ret
    exact ⟨rfl, HB.out⟩
  have d6 := decide_eq_false c3
  by_cases c4 : 15 < p
  · have e : checkP sh p l = 1 := if_pos (by omega)
    rw [e]
    have d7 := decide_eq_true c4
    go_enter Try.func162, Try.ntmps162
    go_wp2
    go_ret
    exact ⟨rfl, HB.out⟩
  have d7 := decide_eq_false c4
  by_cases c5 : sh < 0
  · have e : checkP sh p l = 1 := if_pos (by omega)
    rw [e]
    have d8 := decide_eq_true c5
    go_enter Try.func162, Try.ntmps162
    go_wp2
    go_ret
    exact ⟨rfl, HB.out⟩
  have d8 := decide_eq_false c5
  by_cases c6 : 15 < sh
  · have e : checkP sh p l = 1 := if_pos (by omega)
    rw [e]
    have d9 := decide_eq_true c6
    go_enter Try.func162, Try.ntmps162
    go_wp2
    go_ret
    exact ⟨rfl, HB.out⟩
  have d9 := decide_eq_false c6
  have e0 : checkP sh p l = if l.any (offP p) = true then 1 else 0 := if_neg (by omega)
  rw [e0]
  have hp : 1 ≤ p ∧ p ≤ 62 := by omega
  by_cases c7 : l.any (offP p) = true
  · rw [if_pos c7]
    go_enter Try.func162, Try.ntmps162
    go_wp2_with (first | (go_at_call 127; (with_reducible refine (contains_off _ _ l _ p _ hp X1.out HR.out (by omega)).mono ?_); rintro e w1 ⟨rfl, rfl⟩))
    go_ret
    exact ⟨rfl, HB.out⟩
  · rw [if_neg c7]
    replace c7 := Bool.eq_false_iff.mpr c7
    go_enter Try.func162, Try.ntmps162
    go_wp2_with (first | (go_at_call 127; (with_reducible refine (contains_off _ _ l _ p _ hp X1.out HR.out (by omega)).mono ?_); rintro e w1 ⟨rfl, rfl⟩))
    go_ret
    exact ⟨rfl, HB.out⟩
/-! What it tells. -/
def sumTo (fs xs : List Int) : Nat → Int
  | 0 => 0
  | k + 1 => wrap64 (sumTo fs xs k + wrap64 (rd fs (k : Int) * rd xs ((xs.length : Int) - 1 - (k : Int))))
def tellP (fs xs : List Int) (sh : Int) : Int := sumTo fs xs fs.length / 2 ^ sh.toNat
set_option maxHeartbeats 8000000 in
set_option maxRecDepth 100000 in
theorem tell_calls (w : World) (sh p : Int) (A : Option Addr) (fs : List Int) (c : Nat) (Ax : Option Addr) (xs : List Int) (cx : Nat) (hr : Kd.C (Kd.int .i64) w A fs.length fs) (hx : Kd.C (Kd.int .i64) w Ax xs.length xs) (hs : 0 ≤ sh ∧ sh ≤ 15) (hl : fs.length ≤ xs.length) (hm : xs.length ≤ 1000000000000) :
    Calls Try.prog 163 #[lpcV sh p A fs.length c, .slice Ax xs.length cx] w (IntTo w (tellP fs xs sh)) := by
  have HB := Aside0.mk (below_alloc (Below.refl w.heap.size w) (.cells #[.int .i64 sh, .int .i64 p, .slice A fs.length c] 215))
  have HR := Aside0.mk (Kd.C_alloc hr (.cells #[.int .i64 sh, .int .i64 p, .slice A fs.length c] 215))
  have HX := Aside0.mk (Kd.C_alloc hx (.cells #[.int .i64 sh, .int .i64 p, .slice A fs.length c] 215))
  obtain ⟨x0, x1, x2⟩ := lpc_cells w sh p (.slice A fs.length c) 215
  have X0 := Aside0.mk x0
  clear hr hx x1
  go_enter Try.func163, Try.ntmps163
  go_upto_block 0 with fail
  generalize w.alloc (.cells #[.int .i64 sh, .int .i64 p, .slice A fs.length c] 215) = W at *
  go_wp2_with fail
  clear x0 x2
  go_loop [5, 11] (fun s i => ∃ k : Nat, k ≤ fs.length ∧ i = .int .i64 k ∧ s = .int .i64 (sumTo fs xs k)) (fun s i => fs.length - (intOf i).toNat)
  case atStart => exact ⟨0, Nat.zero_le _, rfl, rfl⟩
  case round =>
    obtain ⟨k, hk, rfl, rfl⟩ := hrel
    by_cases hlt : k < fs.length
    · have d1 : decide ((k : Int) < (fs.length : Int)) = true := decide_eq_true (by omega)
      have d2 : decide (k < fs.length) = true := decide_eq_true (by omega)
      obtain ⟨j, hj⟩ : ∃ j : Nat, (xs.length : Int) - 1 - (k : Int) = (j : Int) := ⟨xs.length - 1 - k, by omega⟩
      obtain ⟨j1, hj1⟩ : ∃ j : Nat, (xs.length : Int) - 1 = (j : Int) := ⟨xs.length - 1, by omega⟩
      have hj2 : (j1 : Int) - (k : Int) = (j : Int) := by omega
      have e1 : IntKind.i64.wrap (j : Int) = (j : Int) := by rw [IntKind.wrap_i64]; omega
      have e2 : IntKind.i64.wrap (j1 : Int) = (j1 : Int) := by rw [IntKind.wrap_i64]; omega
      have q1 : (j : Int) < (xs.length : Int) := by omega
      obtain ⟨ad, e3, hx⟩ := Kd.at_int HR.out (k : Int) (by omega) (by omega)
      cases e3
      obtain ⟨ax, e4, hy⟩ := Kd.at_int HX.out (j : Int) (by omega) q1
      cases e4
      rw [Int.toNat_natCast] at hx hy
      have k1 : (0 : Int) ≤ (k : Int) := Int.natCast_nonneg _
      have k2 : (k : Int) < (fs.length : Int) := by omega
      have k3 : (0 : Int) ≤ (j : Int) := Int.natCast_nonneg _
      have HS := Aside0.mk (show sumTo fs xs (k + 1) = wrap64 (sumTo fs xs k + wrap64 (rd fs (k : Int) * rd xs (j : Int))) by rw [sumTo, hj])
      generalize rd fs (k : Int) = a at hx HS
      generalize rd xs (j : Int) = b at hy HS
      generalize sumTo fs xs k = s at *
      clear hj
      go_wp2
      go_round
      case rel => exact ⟨k + 1, by omega, by go_num, by rw [HS.out]⟩
      case measure => simp [intOf]; omega
    · obtain rfl : k = fs.length := by omega
      have d1 : decide ((fs.length : Int) < (fs.length : Int)) = false := decide_eq_false (by omega)
      have d2 : decide (fs.length < fs.length) = false := decide_eq_false (by omega)
      have x0 := X0.out
      obtain ⟨j, hj⟩ : ∃ j : Nat, sh = (j : Int) := ⟨sh.toNat, by omega⟩
      subst hj
      have k1 : (0 : Int) ≤ (j : Int) := Int.natCast_nonneg _
      have k2 : (j : Int) < 64 := by omega
      go_wp2
      go_ret
      exact ⟨by unfold tellP; rw [Int.toNat_natCast]; rfl, HB.out⟩
end Go.Proofs.Ytpeejdmbnlhjmaa.H
