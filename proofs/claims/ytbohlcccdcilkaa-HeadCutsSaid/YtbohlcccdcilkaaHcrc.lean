/- The check of 8 bits of bytes (checks.Eight) as a plain function, with the proofs that the program's calls come to it. For any bytes. -/
import Derived.Test.YtbohlcccdcilkaaProg
import Derived.Below
import Derived.Deep.Draws
import Derived.Deep.AppendLies
import Derived.Maps.AppendAt
import Derived.OwnWalk
import Derived.Laws.BytesArg
import Derived.Laws.MakeOwn
import Derived.Laws.OwnMore
import Derived.Deep.OwnRows
import Derived.Tactics
import Derived.Lib.ConvBytes
import Derived.Laws.Slices
import Derived.WalkKit
import Derived.KernelRfl
import Derived.RowKit3
import Derived.Deep.LoopGhost
import Derived.Deep.QuietTactic
import Derived.BigQuiet
import Derived.WideLaws
import Derived.Deep.DeepCutAuto
import Derived.Deep.CutBlock
import Derived.Deep.RegionHeld3
import Derived.Laws.Rows
import Derived.Lib.AppendStr
import Derived.ArgAppend
import Derived.Laws.IdiomCopy
import Derived.OrdersHeld
import Derived.Laws.BitsLemmas
import Derived.RowKit
import Derived.Test.YtbohlcccdcilkaaWWords
import Derived.Test.YtbohlcccdcilkaaWLast
import Derived.Test.YtbohlcccdcilkaaWTab
import Derived.Test.YtbohlcccdcilkaaWFour
import Derived.Test.YtbohlcccdcilkaaWQPut
import Derived.Test.YtbohlcccdcilkaaWApart
import Derived.Test.YtbohlcccdcilkaaWArr
import Derived.Test.YtbohlcccdcilkaaWZeros
import Derived.Test.YtbohlcccdcilkaaWFoot
import Derived.Test.YtbohlcccdcilkaaWKept
import Derived.Test.YtbohlcccdcilkaaWShare
import Derived.Test.YtbohlcccdcilkaaWN
import Derived.Test.YtbohlcccdcilkaaWFootNe
import Derived.Test.YtbohlcccdcilkaaWAt
import Derived.Test.YtbohlcccdcilkaaWEqStruct
import Derived.Test.YtbohlcccdcilkaaWRepsOne
import Derived.Test.YtbohlcccdcilkaaWInv
import Derived.Test.YtbohlcccdcilkaaWInvWords
import Derived.Test.YtbohlcccdcilkaaWGuard
import Derived.Test.YtbohlcccdcilkaaWNEv
import Derived.Test.YtbohlcccdcilkaaWMore
import Derived.Test.YtbohlcccdcilkaaHchecks
namespace Go.Proofs.Ytbohlcccdcilkaa.H
open Go.RowKit Go.Proofs.YtbohlcccdcilkaaW.PrintWords Go.Proofs.YtbohlcccdcilkaaW.PrintLast Go.Proofs.YtbohlcccdcilkaaW.PrintMore
attribute [local go_sem] max2_int min2_int max_two min_two max_three min_three max_four min_four   -- for this text's walks alone
set_option linter.unusedVariables false
set_option linter.unusedSimpArgs false
theorem nib (c : Int) (h : 0 ≤ c ∧ c ≤ 15) : ∃ a : Fin 16, c = (a.val : Int) := ⟨⟨c.toNat, by omega⟩, by simp; omega⟩
theorem xor_nib : ∀ a b : Fin 16, 0 ≤ Go.bits .xor .u8 (a.val : Int) (b.val : Int) ∧ Go.bits .xor .u8 (a.val : Int) (b.val : Int) < 16 := by decide +kernel
theorem xor_nib' (c x : Int) (hc : 0 ≤ c ∧ c ≤ 15) (hx : 0 ≤ x ∧ x ≤ 15) : 0 ≤ Go.bits .xor .u8 c x ∧ Go.bits .xor .u8 c x < 16 := by
  obtain ⟨a, rfl⟩ := nib c hc
  obtain ⟨b, rfl⟩ := nib x hx
  exact xor_nib a b
def fourP (c x : Int) : Int := Go.bits .xor .u8 (c * 16 % 256) (rd T8 (Go.bits .xor .u8 (c / 16) x))
theorem wrap_u8 (n : Int) : 0 ≤ IntKind.u8.wrap n ∧ IntKind.u8.wrap n ≤ 255 := by
  simp [IntKind.wrap, IntKind.bits, IntKind.signed]
  omega
theorem xor_u8 (a b : Int) : 0 ≤ Go.bits .xor .u8 a b ∧ Go.bits .xor .u8 a b ≤ 255 := wrap_u8 _
theorem tab_cell : ∀ i : Fin 16, tabCells[i.val]? = some (.int .u8 (rd T8 (i.val : Int)))
  | ⟨0, _⟩ => rfl
  | ⟨1, _⟩ => rfl
  | ⟨2, _⟩ => rfl
  | ⟨3, _⟩ => rfl
  | ⟨4, _⟩ => rfl
  | ⟨5, _⟩ => rfl
  | ⟨6, _⟩ => rfl
  | ⟨7, _⟩ => rfl
  | ⟨8, _⟩ => rfl
  | ⟨9, _⟩ => rfl
  | ⟨10, _⟩ => rfl
  | ⟨11, _⟩ => rfl
  | ⟨12, _⟩ => rfl
  | ⟨13, _⟩ => rfl
  | ⟨14, _⟩ => rfl
  | ⟨15, _⟩ => rfl
  | ⟨n + 16, h⟩ => absurd h (by omega)

theorem four_rng (c x : Int) : 0 ≤ fourP c x ∧ fourP c x ≤ 255 := xor_u8 _ _
set_option maxHeartbeats 8000000 in
set_option maxRecDepth 100000 in
theorem four_calls (w : World) (g : Nat) (hb : w.heap[g]? = some (.cells tabCells 80 (0, 0))) (c x : Int) (hc : 0 ≤ c ∧ c ≤ 255) (hx : 0 ≤ x ∧ x ≤ 15) : Calls Try.prog 56 #[.pointer (some ⟨g, 0, none⟩), .int .u8 c, .int .u8 x] w fun e w' => e = .returned (.int .u8 (fourP c x)) ∧ w' = w := by
  obtain ⟨h1, h2⟩ := xor_nib' (c / 16) x (by omega) hx
  have hcell : w.cell? ⟨g, (Go.bits .xor .u8 (c / 16) x).toNat, none⟩ = some (.int .u8 (rd T8 (Go.bits .xor .u8 (c / 16) x))) := by
    rw [blk_cell hb]
    obtain ⟨a, e⟩ := nib _ ⟨h1, by omega⟩
    rw [e]
    exact tab_cell a
  clear hb
  go_enter Try.func56, Try.ntmps56
  go_wp2
  go_ret
  exact ⟨rfl, rfl⟩
def reg8 (l : List Int) (c : Int) : Int := l.foldl (fun c x => fourP (fourP c (x / 16)) (x % 16)) c
theorem reg8_take (l : List Int) (i : Nat) (h : i < l.length) (c : Int) : reg8 (l.take (i + 1)) c = fourP (fourP (reg8 (l.take i) c) (l[i] / 16)) (l[i] % 16) := by
  unfold reg8
  rw [List.take_succ_eq_append_getElem h, List.foldl_append]
  rfl
theorem reg8_rng (l : List Int) (c : Int) (hc : 0 ≤ c ∧ c ≤ 255) : 0 ≤ reg8 l c ∧ reg8 l c ≤ 255 := by
  unfold reg8
  induction l generalizing c with
  | nil => exact hc
  | cons x l ih => exact ih _ (xor_u8 _ _)
theorem rd_at (xs : List Int) (i : Nat) (h : i < xs.length) : rd xs (i : Int) = xs[i] := by
  unfold rd
  simp [List.getD_eq_getElem?_getD, List.getElem?_eq_getElem h]
set_option maxHeartbeats 8000000 in
set_option maxRecDepth 100000 in
theorem eight_m (w : World) (g : Nat) (hb : w.heap[g]? = some (.cells tabCells 80 (0, 0))) (A : Option Addr) (l : List Int) (cap : Nat) (c : Int) (hc : 0 ≤ c ∧ c ≤ 255) (hr : Kd.C (Kd.int .u8) w A l.length l) (hm : l.length ≤ 9223372036854775806) (hl : ∀ x ∈ l, 0 ≤ x ∧ x ≤ 255) :
    Calls Try.prog 42 #[.pointer (some ⟨g, 0, none⟩), .int .u8 c, .slice A l.length cap] w fun e w' => e = .returned (.int .u8 (reg8 l c)) ∧ w' = w := by
  have HB := Aside0.mk hb
  have HR := Aside0.mk hr
  have HL := Aside0.mk hl
  have HC := Aside0.mk hc
  clear hb hr hl hc
  go_enter Try.func42, Try.ntmps42
  go_wp2
  go_loop [1, 11] (fun t i => ∃ k : Nat, k ≤ l.length ∧ i = .int .i64 k ∧ t = .int .u8 (reg8 (l.take k) c)) (fun _ i => l.length - (intOf i).toNat)
  case atStart => exact ⟨0, Nat.zero_le _, rfl, rfl⟩
  case round =>
    obtain ⟨k, hk, rfl, rfl⟩ := hrel
    by_cases hlt : k < l.length
    · have c1 : decide ((k : Int) < (l.length : Int)) = true := decide_eq_true (by omega)
      have c2 : decide (k < l.length) = true := decide_eq_true (by omega)
      obtain ⟨ad, e1, hx⟩ := Kd.at_int HR.out (k : Int) (by omega) (by omega)
      cases e1
      rw [rd_at l k hlt, Int.toNat_natCast] at hx
      have hxb := HL.out l[k] (List.getElem_mem hlt)
      generalize hxe : l[k] = x at hx hxb
      have hq := Aside0.mk (reg8_take l k hlt c)
      rw [hxe] at hq
      have hcr := reg8_rng (l.take k) c HC.out
      generalize reg8 (l.take k) c = q at hq hcr
      clear hxe
      go_wp2_with (first | (go_at_call 56; (with_reducible refine (four_calls _ g HB.out _ _ (by first | exact hcr | exact four_rng _ _) (by omega)).mono ?_); rintro e w' ⟨rfl, rfl⟩))
      go_round
      case rel => exact ⟨k + 1, by omega, by go_num, by rw [hq.out]⟩
      case measure => simp [intOf]; omega
    · obtain rfl : k = l.length := by omega
      have c1 : decide ((l.length : Int) < (l.length : Int)) = false := decide_eq_false (by omega)
      have c2 : decide (l.length < l.length) = false := decide_eq_false (by omega)
      rw [List.take_length]
      go_wp2
      go_ret
      exact ⟨rfl, rfl⟩
set_option maxHeartbeats 8000000 in
set_option maxRecDepth 100000 in
theorem whole_calls (w : World) (A : Option Addr) (l : List Int) (cap : Nat) (hr : Kd.C (Kd.int .u8) w A l.length l) (hm : l.length ≤ 9223372036854775806) (hl : ∀ x ∈ l, 0 ≤ x ∧ x ≤ 255) :
    Calls Try.prog 41 #[.func (.func 42) #[] #[], .slice A l.length cap] w fun e w' => e = .returned (.int .u8 (reg8 l 0)) ∧ Below w.heap.size w w' := by
  have HR := Aside0.mk hr
  have HL := Aside0.mk hl
  clear hr hl
  go_enter Try.func41, Try.ntmps41
  go_wp2_with (first | (go_at_call 55; (with_reducible refine (build_calls _).mono ?_); rintro e w1 ⟨g, rfl, hb, hbel⟩; have HB := Aside0.mk hb; have HE := Aside0.mk hbel; clear hb hbel) | (go_at_call 42; (with_reducible refine (eight_m _ g HB.out _ l _ 0 (by omega) (Kd.C_below HR.out HE.out) hm HL.out).mono ?_); rintro e w2 ⟨rfl, rfl⟩))
  go_ret
  exact ⟨rfl, HE.out⟩
def checks_Eight.f (l0 : List Int) : Option Int := if l0.length ≤ 9223372036854775806 ∧ (l0.all fun x => decide (0 ≤ x) && decide (x ≤ 255)) = true then some (reg8 l0 0) else none
set_option maxHeartbeats 8000000 in
set_option maxRecDepth 100000 in
theorem checks_Eight.calls (A0 : Option Addr) (c0 : Nat) (l0 : List Int) (r : Int) (w : World) (hr0 : Kd.C (Kd.int .u8) w A0 l0.length l0) (hc0 : l0.length ≤ c0) (h : checks_Eight.f l0 = some r) :
    Calls Try.prog 20 #[.slice A0 l0.length c0] w fun e w' => e = .returned (.int .u8 r) ∧ Below w.heap.size w w' := by
  unfold checks_Eight.f at h
  split at h
  · rename_i hh
    obtain ⟨hm, hl⟩ := hh
    obtain rfl := Option.some.inj h
    have hl' : ∀ x ∈ l0, 0 ≤ x ∧ x ≤ 255 := fun x hx => by simpa using List.all_eq_true.mp hl x hx
    have HR := Aside0.mk hr0
    have HL := Aside0.mk hl'
    clear hr0 hl hl' h
    go_enter Try.func20, Try.ntmps20
    go_wp2_with (first | (go_at_call 41; (with_reducible refine (whole_calls _ _ l0 _ HR.out hm HL.out).mono ?_); rintro e w1 ⟨rfl, hb⟩))
    go_ret
    exact ⟨rfl, hb⟩
  · cases h
end Go.Proofs.Ytbohlcccdcilkaa.H
