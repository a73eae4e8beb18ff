/- What is left of numbers behind a fixed predictor (fixed.Residual), as a plain function, with the proof that the program's call comes to it. For any row of up to 2^40 numbers, any order. -/
import Derived.Test.YtpeejdmbnlhjmaaProg
import Derived.Below
import Derived.Deep.Draws
import Derived.Deep.AppendLies
import Derived.Maps.AppendAt
import Derived.OwnWalk
import Derived.Laws.BytesArg
import Derived.Laws.MakeOwn
import Derived.Laws.OwnMore
import Derived.Deep.OwnRows
import Derived.Tactics
import Derived.Lib.ConvBytes
import Derived.Laws.Slices
import Derived.WalkKit
import Derived.KernelRfl
import Derived.RowKit3
import Derived.Deep.LoopGhost
import Derived.Deep.QuietTactic
import Derived.BigQuiet
import Derived.WideLaws
import Derived.Deep.DeepCutAuto
import Derived.Deep.CutBlock
import Derived.Deep.RegionHeld3
import Derived.Laws.Rows
import Derived.Lib.AppendStr
import Derived.ArgAppend
import Derived.Laws.IdiomCopy
import Derived.OrdersHeld
import Derived.Laws.BitsLemmas
import Derived.RowKit
import Derived.Test.YtpeejdmbnlhjmaaWWords
import Derived.Test.YtpeejdmbnlhjmaaWLast
import Derived.Test.YtpeejdmbnlhjmaaWTab
import Derived.Test.YtpeejdmbnlhjmaaWFour
import Derived.Test.YtpeejdmbnlhjmaaWQPut
import Derived.Test.YtpeejdmbnlhjmaaWApart
import Derived.Test.YtpeejdmbnlhjmaaWArr
import Derived.Test.YtpeejdmbnlhjmaaWZeros
import Derived.Test.YtpeejdmbnlhjmaaWFoot
import Derived.Test.YtpeejdmbnlhjmaaWKept
import Derived.Test.YtpeejdmbnlhjmaaWShare
import Derived.Test.YtpeejdmbnlhjmaaWN
import Derived.Test.YtpeejdmbnlhjmaaWFootNe
import Derived.Test.YtpeejdmbnlhjmaaWAt
import Derived.Test.YtpeejdmbnlhjmaaWEqStruct
import Derived.Test.YtpeejdmbnlhjmaaWRepsOne
import Derived.Test.YtpeejdmbnlhjmaaWInv
import Derived.Test.YtpeejdmbnlhjmaaWInvWords
import Derived.Test.YtpeejdmbnlhjmaaWGuard
import Derived.Test.YtpeejdmbnlhjmaaWNEv
import Derived.Test.YtpeejdmbnlhjmaaWMore
import Derived.ScopeJumps
import Derived.WalkMore
import Derived.Test.YtpeejdmbnlhjmaaSdown
import Derived.Test.YtpeejdmbnlhjmaaSw
namespace Go.Proofs.Ytpeejdmbnlhjmaa.H
open Go.RowKit Go.Proofs.YtpeejdmbnlhjmaaW.PrintWords Go.Proofs.YtpeejdmbnlhjmaaW.PrintLast Go.Proofs.YtpeejdmbnlhjmaaW.PrintMore
attribute [local go_sem] max2_int min2_int max_two min_two max_three min_three max_four min_four   -- for this text's walks alone
set_option linter.unusedVariables false
set_option linter.unusedSimpArgs false
def diffs : List Int → List Int
  | a :: b :: r => wrap64 (b - a) :: diffs (b :: r)
  | _ => []
theorem diffs_len : ∀ l : List Int, (diffs l).length = l.length - 1
  | [] => rfl
  | [_] => rfl
  | a :: b :: r => by
    have := diffs_len (b :: r)
    simp only [diffs, List.length_cons] at this ⊢
    omega
def resP : Nat → List Int → List Int
  | 0, l => l
  | n + 1, l => resP n (diffs l)
theorem diffs_at : ∀ (l : List Int) (k : Nat) (h : k + 1 < l.length), (diffs l)[k]? = some (wrap64 (l[k + 1] - l[k]))
  | [], _, h => by simp at h
  | [_], _, h => by simp at h
  | a :: b :: r, 0, _ => rfl
  | a :: b :: r, k + 1, h => by
    have := diffs_at (b :: r) k (by simp only [List.length_cons] at h ⊢; omega)
    simpa [diffs] using this
/-- The first k numbers have gone over into differences. -/
def difTo (l : List Int) (k : Nat) : List Int := (diffs l).take k ++ l.drop k
theorem difTo_len (l : List Int) (k : Nat) (h : k ≤ l.length - 1) : (difTo l k).length = l.length := by
  unfold difTo
  rw [List.length_append, List.length_take, List.length_drop, diffs_len]
  omega
theorem difTo_rd (l : List Int) (k i : Nat) (h : k ≤ l.length - 1) (hi : k ≤ i) (hl : i < l.length) : rd (difTo l k) (i : Int) = l[i] := by
  unfold rd difTo
  have e : ((diffs l).take k).length = k := by rw [List.length_take, diffs_len]; omega
  rw [List.getD_eq_getElem?_getD, Int.toNat_natCast, List.getElem?_append_right (by omega), e, List.getElem?_drop, show k + (i - k) = i by omega, List.getElem?_eq_getElem hl]
  rfl
theorem difTo_set (l : List Int) (k : Nat) (h : k + 1 < l.length) : (difTo l k).set k (wrap64 (l[k + 1] - l[k])) = difTo l (k + 1) := by
  unfold difTo
  have e : ((diffs l).take k).length = k := by rw [List.length_take, diffs_len]; omega
  rw [List.set_append_right _ _ (by omega), e, Nat.sub_self, List.drop_eq_getElem_cons (show k < l.length by omega), List.set_cons_zero, List.take_add_one, diffs_at l k h, List.append_assoc]
  rfl
theorem difTo_end (l : List Int) : (difTo l (l.length - 1)).take (l.length - 1) = diffs l := by
  unfold difTo
  have e : (diffs l).take (l.length - 1) = diffs l := List.take_of_length_le (by rw [diffs_len]; exact Nat.le_refl _)
  rw [e, List.take_left' (diffs_len l)]
def fixed_Residual.f (l0 : List Int) (a1 : Int) : Option (List Int × Int) :=
  if a1 < 0 ∨ a1 > 4 then some ([], 1) else if (l0.length : Int) < a1 then some ([], 2) else if l0.length ≤ 1000000000000 then some (resP a1.toNat l0, 0) else none
/-- At the label: what is left by as many steps as are to be done is the same. -/
def FJ (w : World) (Q : List Int) (n : Nat) (v : Value) (W : World) : Prop := ∃ l : List Int, Kd.R (Kd.int .i64) 3 W w.heap.size (fun _ => True) v l ∧ Below w.heap.size w W ∧ resP n l = Q ∧ n ≤ l.length ∧ l.length ≤ 1000000000000
def FEnd (w : World) (r1 : List Int) (r2 : Int) (e : Ending) (w' : World) : Prop := ∃ v0_ : Value, e = .returned (.tuple #[v0_, .int .i64 r2]) ∧ Kd.R (Kd.int .i64) 3 w' w.heap.size (fun _ => True) v0_ r1 ∧ Below w.heap.size w w'
theorem f_nil (w W : World) (hb : Below w.heap.size w W) (r2 : Int) : FEnd w [] r2 (.returned (.tuple #[.slice none 0 0, .int .i64 r2])) W := ⟨_, rfl, Kd.R_nil _ _ _ _ _, hb⟩
set_option maxHeartbeats 8000000 in
set_option maxRecDepth 100000 in
theorem fixed_arg (A0 : Option Addr) (c0 : Nat) (l : List Int) (a : Int) (w : World) (h : a < 0 ∨ a > 4) : Calls Try.prog 125 #[.slice A0 l.length c0, .int .i64 a] w (FEnd w [] 1) := by
  by_cases c : a < 0
  · have c1 : decide (a < 0) = true := decide_eq_true c
    clear h c
    go_enter Try.func125, Try.ntmps125
    go_wp2_with fail
    go_step3
    go_wp2_with fail
    (try simp only [Exit.jump])
    exact bodyPost_ret (v := .tuple #[.slice none 0 0, .int .i64 1]) (by simp [results, go_sem]) rfl (f_nil _ _ (Below.refl _ _) _)
  · have c1 : decide (a < 0) = false := decide_eq_false c
    have c2 : decide (4 < a) = true := decide_eq_true (by omega)
    have c3 : decide (a > 4) = true := c2
    clear h c
    go_enter Try.func125, Try.ntmps125
    go_wp2_with fail
    go_step3
    go_wp2_with fail
    (try simp only [Exit.jump])
    exact bodyPost_ret (v := .tuple #[.slice none 0 0, .int .i64 1]) (by simp [results, go_sem]) rfl (f_nil _ _ (Below.refl _ _) _)
theorem ofFn52 (U : Nat → Value) : Array.ofFn (n := 52) (fun i => U i.val) = #[U 0, U 1, U 2, U 3, U 4, U 5, U 6, U 7, U 8, U 9, U 10, U 11, U 12, U 13, U 14, U 15, U 16, U 17, U 18, U 19, U 20, U 21, U 22, U 23, U 24, U 25, U 26, U 27, U 28, U 29, U 30, U 31, U 32, U 33, U 34, U 35, U 36, U 37, U 38, U 39, U 40, U 41, U 42, U 43, U 44, U 45, U 46, U 47, U 48, U 49, U 50, U 51] := by kernel_rfl
theorem frame52 (t : Array Value) (hs : t.size = 52) : ∃ U : Nat → Value, (∀ i, U i = t.getD i undef) ∧ t = #[U 0, U 1, U 2, U 3, U 4, U 5, U 6, U 7, U 8, U 9, U 10, U 11, U 12, U 13, U 14, U 15, U 16, U 17, U 18, U 19, U 20, U 21, U 22, U 23, U 24, U 25, U 26, U 27, U 28, U 29, U 30, U 31, U 32, U 33, U 34, U 35, U 36, U 37, U 38, U 39, U 40, U 41, U 42, U 43, U 44, U 45, U 46, U 47, U 48, U 49, U 50, U 51] := by
  obtain ⟨U, hU⟩ : ∃ U : Nat → Value, ∀ i, U i = t.getD i undef := ⟨fun i => t.getD i undef, fun _ => rfl⟩
  refine ⟨U, hU, ?_⟩
  rw [← ofFn52 U]
  exact Array.ext (by simp [hs]) (fun i h1 h2 => by simp [hU, Array.getD, h1])
set_option maxHeartbeats 8000000 in
set_option maxRecDepth 100000 in
theorem fixed_main (A0 : Option Addr) (c0 : Nat) (l : List Int) (a : Nat) (w : World) (ha : a ≤ 4) (hla : a ≤ l.length) (hl : l.length ≤ 1000000000000) (hr0 : Kd.C (Kd.int .i64) w A0 l.length l) (hc0 : l.length ≤ c0) :
    Calls Try.prog 125 #[.slice A0 l.length c0, .int .i64 (a : Int)] w (FEnd w (resP a l) 0) := by
  have HR := Aside0.mk hr0
  have HC := Aside0.mk hc0
  have c1 : decide ((a : Int) < 0) = false := decide_eq_false (by omega)
  have c2 : decide ((a : Int) > 4) = false := decide_eq_false (by omega)
  have c3 : decide (4 < (a : Int)) = false := c2
  have c4 : decide ((l.length : Int) < (a : Int)) = false := decide_eq_false (by omega)
  have c5 : decide (l.length < a) = false := decide_eq_false (by omega)
  have c6 : decide (4 < a) = false := decide_eq_false (by omega)
  clear hr0 hc0
  go_enter Try.func125, Try.ntmps125
  go_wp2_with fail
  refine wp_scope_loop 0 (fun a' W => ∃ (n : Nat) (v : Value), (a'.tmps.size = 52 ∧ a'.defers = [] ∧ a'.tmps.getD 1 undef = .int .i64 (n : Int) ∧ a'.tmps.getD 6 undef = v) ∧ n ≤ 4 ∧ Aside0 (FJ w (resP a l) n v W)) (fun a' _ => (intOf (a'.tmps.getD 1 undef)).toNat) rfl ?_ ?_
  · intro enter
    have ENTER := Aside0.mk enter
    clear enter
    go_wp2_with (first | (go_at_call 79; (with_reducible refine (clone_calls _ _ l _ hl HR.out HC.out).mono ?_); rintro e w1 ⟨v1, rfl, hr, hb⟩; have R1 := Aside0.mk hr; have HB1 := Aside0.mk hb; clear hr hb))
    go_step3
    rename_i hK
    exact hK _ _ (ENTER.out _ _ ⟨a, v1, ⟨rfl, rfl, rfl, rfl⟩, ha, ⟨l, R1.out, HB1.out, rfl, hla, hl⟩⟩)
  · rintro a' W ⟨n, v, ⟨hf1, hf2, hf3, hf4⟩, hn, hJ⟩
    obtain ⟨ts, ds⟩ := a'
    simp only at hf1 hf2 hf3 hf4
    subst hf2
    obtain ⟨U, hU, hta⟩ := frame52 ts hf1
    have q1 := (hU 1).trans hf3
    have q6 := (hU 6).trans hf4
    rw [q1, q6] at hta
    clear hU q1 q6 hf1 hf3 hf4 c1 c2 c3 c4 c5 c6
    subst hta
    obtain ⟨m, h1, h2, h3, h4, h5⟩ := hJ.out
    have H1 := Aside0.mk h1
    have H2 := Aside0.mk h2
    have H3 := Aside0.mk h3
    clear hJ h1 h2 h3
    obtain ⟨A, c, e1⟩ := Kd.R_slice H1.out
    subst e1
    cases n with
    | zero =>
      go_wp2_with fail
      simp only [Exit.jump]
      refine bodyPost_ret (v := .tuple #[.slice A m.length c, .int .i64 0]) (by simp [results, go_sem]) rfl ⟨_, rfl, ?_, H2.out⟩
      have e : m = resP a l := H3.out
      rw [← e]
      exact H1.out
    | succ n =>
      have z1 : (((n + 1 : Nat) : Int) == 0) = false := beq_eq_false_iff_ne.mpr (by omega)
      have z2 : IntKind.i64.wrap (((n + 1 : Nat) : Int) - 1) = (n : Int) := by rw [IntKind.wrap_i64]; omega
      have z3 : IntKind.i64.wrap ((m.length : Int) - 1) = ((m.length - 1 : Nat) : Int) := by rw [IntKind.wrap_i64]; omega
      have z4 : ((m.length : Int) - 1) = ((m.length - 1 : Nat) : Int) := by omega
      have z5 : (((n + 1 : Nat) : Int) - 1) = (n : Int) := by omega
      obtain ⟨g, cap, hv, hge, _, _⟩ := Kd.R_form H1.out (by omega)
      obtain ⟨rfl, _, rfl⟩ := Value.slice.inj hv
      have HGE := Aside0.mk hge
      clear hv hge
      go_upto_block 1 with fail
      go_wp2_with fail
      go_loopw [28] (fun i wr => ∃ k : Nat, k ≤ m.length - 1 ∧ i = .int .i64 k ∧ Aside0 (Kd.R (Kd.int .i64) 3 wr w.heap.size (fun _ => True) (.slice (some ⟨g, 0, none⟩) m.length c) (difTo m k)) ∧ Aside0 (Below w.heap.size w wr)) (fun i _ => m.length - (intOf i).toNat)
      case atStart => exact ⟨0, Nat.zero_le _, rfl, H1, H2⟩
      case round =>
        clear H1 H2
        obtain ⟨k, hk, rfl, HRr, HBr⟩ := hrel
        by_cases hlt : k < m.length - 1
        · have d1 : decide ((k : Int) < ((m.length - 1 : Nat) : Int)) = true := decide_eq_true (by omega)
          have d2 : decide (k < m.length - 1) = true := decide_eq_true (by omega)
          obtain ⟨j, hj⟩ : ∃ j : Nat, (k : Int) + 1 = (j : Int) := ⟨k + 1, by omega⟩
          have ej : j = k + 1 := by omega
          have e1 : IntKind.i64.wrap (j : Int) = (j : Int) := by rw [IntKind.wrap_i64]; omega
          obtain ⟨hx, hf⟩ := irow_at HRr.out k (by rw [difTo_len m k hk]; omega)
          obtain ⟨hy, hf2⟩ := irow_at HRr.out j (by rw [difTo_len m k hk]; omega)
          rw [difTo_rd m k k hk (Nat.le_refl _) (by omega)] at hx
          rw [difTo_rd m k j hk (by omega) (by omega)] at hy
          have HS := Aside0.mk (difTo_set m k (by omega))
          have ey : m[j]'(by omega) = m[k + 1]'(by omega) := by subst ej; rfl
          rw [ey] at hy
          generalize m[k + 1]'(by omega) = y at hy HS
          generalize m[k]'(by omega) = x at hx HS
          have k1 : (0 : Int) ≤ (k : Int) := Int.natCast_nonneg _
          have k2 : (k : Int) < (m.length : Int) := by omega
          have k3 : (0 : Int) ≤ (j : Int) := Int.natCast_nonneg _
          have k4 : (j : Int) < (m.length : Int) := by omega
          clear hf2 ey ej
          go_upto_region 11 with fail
          go_region
          have S2 := Aside0.mk (Kd.R_drew (irow_put HRr.out k (wrap64 (y - x))))
          rw [HS.out] at S2
          have B2 := Aside0.mk (below_drew (below_set HBr.out HGE.out (j := k) (v := .int .i64 (wrap64 (y - x)))))
          go_wp2_with fail
          exact ⟨⟨k + 1, by omega, by go_num, S2, B2⟩, by simp [intOf]; omega⟩
        · obtain rfl : k = m.length - 1 := by omega
          have d1 : decide (((m.length - 1 : Nat) : Int) < ((m.length - 1 : Nat) : Int)) = false := decide_eq_false (by omega)
          have d2 : decide (m.length - 1 < m.length - 1) = false := decide_eq_false (by omega)
          have S3 := Aside0.mk (Kd.R_take HRr.out (m := m.length - 1) (by rw [difTo_len m _ hk]; omega))
          rw [difTo_end] at S3
          have k1 : (0 : Int) ≤ ((m.length - 1 : Nat) : Int) := Int.natCast_nonneg _
          have k2 : ((m.length - 1 : Nat) : Int) ≤ (m.length : Int) := by omega
          have k3 : ((m.length - 1 : Nat) : Int) ≤ (c : Int) := by have := (Kd.R_reads' HRr.out).2.1; omega
          go_wp2_with fail
          go_step3
          exact ⟨rfl, ⟨n, _, ⟨rfl, rfl, rfl, rfl⟩, by omega, ⟨_, S3.out, HBr.out, H3.out, by rw [diffs_len]; omega, by rw [diffs_len]; omega⟩⟩, by simp [intOf]⟩
set_option maxHeartbeats 8000000 in
set_option maxRecDepth 100000 in
theorem fixed_short (A0 : Option Addr) (c0 : Nat) (l : List Int) (a : Int) (w : World) (h : 0 ≤ a ∧ a ≤ 4) (hl : (l.length : Int) < a) : Calls Try.prog 125 #[.slice A0 l.length c0, .int .i64 a] w (FEnd w [] 2) := by
  have c1 : decide (a < 0) = false := decide_eq_false (by omega)
  have c2 : decide (4 < a) = false := decide_eq_false (by omega)
  have c3 : decide (a > 4) = false := c2
  have c4 : decide ((l.length : Int) < a) = true := decide_eq_true hl
  clear h hl
  go_enter Try.func125, Try.ntmps125
  go_wp2_with fail
  go_step3
  go_wp2_with fail
  (try simp only [Exit.jump])
  exact bodyPost_ret (v := .tuple #[.slice none 0 0, .int .i64 2]) (by simp [results, go_sem]) rfl (f_nil _ _ (Below.refl _ _) _)
theorem fixed_Residual.mono : ∀ y0 y1, LeO (fixed_Residual.f y0 y1) (fixed_Residual.f y0 y1) := fun _ _ => LeO.refl _
theorem fixed_Residual.calls (A0 : Option Addr) (c0 : Nat) (l0 : List Int) (a1 : Int) (r1 : List Int) (r2 : Int) (w : World) (hr0 : Kd.C (Kd.int .i64) w A0 l0.length l0) (hc0 : l0.length ≤ c0) (h : fixed_Residual.f l0 a1 = some (r1, r2)) :
    Calls Try.prog 125 #[.slice A0 l0.length c0, .int .i64 a1] w fun e w' => ∃ v0_ : Value, e = .returned (.tuple #[v0_, .int .i64 r2]) ∧ Kd.R (Kd.int .i64) 3 w' w.heap.size (fun _ => True) v0_ r1 ∧ Below w.heap.size w w' := by
  unfold fixed_Residual.f at h
  by_cases h1 : a1 < 0 ∨ a1 > 4
  · rw [if_pos h1] at h
    obtain ⟨rfl, rfl⟩ := Prod.mk.inj (Option.some.inj h)
    exact fixed_arg A0 c0 l0 a1 w h1
  rw [if_neg h1] at h
  by_cases h2 : (l0.length : Int) < a1
  · rw [if_pos h2] at h
    obtain ⟨rfl, rfl⟩ := Prod.mk.inj (Option.some.inj h)
    exact fixed_short A0 c0 l0 a1 w (by omega) h2
  rw [if_neg h2] at h
  by_cases h3 : l0.length ≤ 1000000000000
  · rw [if_pos h3] at h
    obtain ⟨rfl, rfl⟩ := Prod.mk.inj (Option.some.inj h)
    have := fixed_main A0 c0 l0 a1.toNat w (by omega) (by omega) h3 hr0 hc0
    rw [Int.toNat_of_nonneg (by omega)] at this
    exact this
  · rw [if_neg h3] at h
    cases h
end Go.Proofs.Ytpeejdmbnlhjmaa.H
