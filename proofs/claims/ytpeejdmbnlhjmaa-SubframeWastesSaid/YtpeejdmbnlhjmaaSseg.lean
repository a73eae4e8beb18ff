/- Bits laid one behind the other: what stands at each place of the bytes. -/
import Derived.Test.YtpeejdmbnlhjmaaProg
import Derived.Below
import Derived.Deep.Draws
import Derived.Deep.AppendLies
import Derived.Maps.AppendAt
import Derived.OwnWalk
import Derived.Laws.BytesArg
import Derived.Laws.MakeOwn
import Derived.Laws.OwnMore
import Derived.Deep.OwnRows
import Derived.Tactics
import Derived.Lib.ConvBytes
import Derived.Laws.Slices
import Derived.WalkKit
import Derived.KernelRfl
import Derived.RowKit3
import Derived.Deep.LoopGhost
import Derived.Deep.QuietTactic
import Derived.BigQuiet
import Derived.WideLaws
import Derived.Deep.DeepCutAuto
import Derived.Deep.CutBlock
import Derived.Deep.RegionHeld3
import Derived.Laws.Rows
import Derived.Lib.AppendStr
import Derived.ArgAppend
import Derived.Laws.IdiomCopy
import Derived.OrdersHeld
import Derived.Laws.BitsLemmas
import Derived.RowKit
import Derived.Test.YtpeejdmbnlhjmaaWWords
import Derived.Test.YtpeejdmbnlhjmaaWLast
import Derived.Test.YtpeejdmbnlhjmaaWTab
import Derived.Test.YtpeejdmbnlhjmaaWFour
import Derived.Test.YtpeejdmbnlhjmaaWQPut
import Derived.Test.YtpeejdmbnlhjmaaWApart
import Derived.Test.YtpeejdmbnlhjmaaWArr
import Derived.Test.YtpeejdmbnlhjmaaWZeros
import Derived.Test.YtpeejdmbnlhjmaaWFoot
import Derived.Test.YtpeejdmbnlhjmaaWKept
import Derived.Test.YtpeejdmbnlhjmaaWShare
import Derived.Test.YtpeejdmbnlhjmaaWN
import Derived.Test.YtpeejdmbnlhjmaaWFootNe
import Derived.Test.YtpeejdmbnlhjmaaWAt
import Derived.Test.YtpeejdmbnlhjmaaWEqStruct
import Derived.Test.YtpeejdmbnlhjmaaWRepsOne
import Derived.Test.YtpeejdmbnlhjmaaWInv
import Derived.Test.YtpeejdmbnlhjmaaWInvWords
import Derived.Test.YtpeejdmbnlhjmaaWGuard
import Derived.Test.YtpeejdmbnlhjmaaWNEv
import Derived.Test.YtpeejdmbnlhjmaaWMore
import Derived.Laws.Bits64b
import Derived.Test.YtpeejdmbnlhjmaaSput
import Derived.Test.YtpeejdmbnlhjmaaSwval
import Derived.Test.YtpeejdmbnlhjmaaSrdval
namespace Go.Proofs.Ytpeejdmbnlhjmaa.H
open Go.RowKit Go.Proofs.YtpeejdmbnlhjmaaW.PrintWords Go.Proofs.YtpeejdmbnlhjmaaW.PrintLast Go.Proofs.YtpeejdmbnlhjmaaW.PrintMore
attribute [local go_sem] max2_int min2_int max_two min_two max_three min_three max_four min_four   -- for this text's walks alone
set_option linter.unusedVariables false
set_option linter.unusedSimpArgs false
/-- The number of n bits from bit a on. -/
def bitsN (l : List Int) (a n : Nat) : Nat := bigN l / 2 ^ (8 * l.length - a - n) % 2 ^ n
/-- How many bits, and which number they make. -/
def segW : List (Nat × Nat) → Nat
  | [] => 0
  | p :: r => p.2 + segW r
def segA (A : Nat) : List (Nat × Nat) → Nat
  | [] => A
  | p :: r => segA (A * 2 ^ p.2 + p.1 % 2 ^ p.2) r
theorem segW_app : ∀ p q : List (Nat × Nat), segW (p ++ q) = segW p + segW q
  | [], q => by simp [segW]
  | x :: p, q => by simp only [List.cons_append, segW, segW_app p q]; omega
theorem segA_app : ∀ (p q : List (Nat × Nat)) (A : Nat), segA A (p ++ q) = segA (segA A p) q
  | [], _, _ => rfl
  | x :: p, q, A => by simp only [List.cons_append, segA, segA_app p q]
theorem segA_high : ∀ (r : List (Nat × Nat)) (A : Nat), segA A r / 2 ^ segW r = A
  | [], A => by simp [segA, segW]
  | x :: r, A => by
    simp only [segA, segW]
    rw [Nat.add_comm x.2, Nat.pow_add, ← Nat.div_div_eq_div_mul, segA_high r, Nat.mul_comm A, Nat.mul_add_div (Nat.pow_pos (by decide)), Nat.div_eq_of_lt (Nat.mod_lt _ (Nat.pow_pos (by decide))), Nat.add_zero]
theorem bits_seg (l : List Int) (pre post : List (Nat × Nat)) (v m : Nat) (h : WN l (segW (pre ++ (v, m) :: post)) (segA 0 (pre ++ (v, m) :: post))) : bitsN l (segW pre) m = v % 2 ^ m := by
  obtain ⟨_, h2, h3⟩ := h
  have hw : segW (pre ++ (v, m) :: post) = segW pre + (m + segW post) := by rw [segW_app]; rfl
  rw [hw] at h2 h3
  unfold bitsN
  rw [h3, show 8 * l.length - segW pre - m = (8 * l.length - (segW pre + (m + segW post))) + segW post by omega, Nat.pow_add, ← Nat.div_div_eq_div_mul, Nat.mul_div_cancel _ (Nat.pow_pos (by decide))]
  rw [segA_app]
  show segA (segA 0 pre * 2 ^ m + v % 2 ^ m) post / 2 ^ segW post % 2 ^ m = _
  rw [segA_high, Nat.mul_comm, Nat.mul_add_mod, Nat.mod_mod]
theorem bits_sub (l : List Int) (a m p q : Nat) (h : a + m ≤ 8 * l.length) (hpq : p + q ≤ m) : bitsN l (a + p) q = bitsN l a m / 2 ^ (m - p - q) % 2 ^ q := by
  unfold bitsN
  obtain ⟨r, rfl⟩ : ∃ r, m = p + q + r := ⟨m - p - q, by omega⟩
  rw [show 8 * l.length - (a + p) - q = (8 * l.length - a - (p + q + r)) + r by omega, show p + q + r - p - q = r by omega, Nat.pow_add, ← Nat.div_div_eq_div_mul]
  generalize bigN l / 2 ^ (8 * l.length - a - (p + q + r)) = X
  rw [show p + q + r = r + (p + q) by omega, Nat.pow_add 2 r, Nat.mod_mul_right_div_self]
  exact (Nat.mod_mod_of_dvd _ (Nat.pow_dvd_pow 2 (by omega))).symm
/-- A writer's bytes and their number of bits, as what was laid. -/
def WS (s : List Int × Int) (sg : List (Nat × Nat)) : Prop := s.2 = ((segW sg : Nat) : Int) ∧ WN s.1 (segW sg) (segA 0 sg)
theorem ws_nil : WS ([], 0) [] := ⟨rfl, WN_nil⟩
theorem ws_put (s : List Int × Int) (sg : List (Nat × Nat)) (h : WS s sg) (u width : Int) (hu : 0 ≤ u) (hw : 0 ≤ width ∧ width ≤ 64) : WS (wput1 s u width) (sg ++ [(u.toNat, width.toNat)]) := by
  obtain ⟨h1, h2⟩ := h
  obtain ⟨un, rfl⟩ : ∃ n : Nat, u = (n : Int) := ⟨u.toNat, by omega⟩
  obtain ⟨wn, rfl⟩ : ∃ n : Nat, width = (n : Int) := ⟨width.toNat, by omega⟩
  unfold wput1 WS
  rw [h1, show max (0 : Int) (min (wn : Int) 64) = (wn : Int) by omega]
  obtain ⟨r1, r2⟩ := wput_val un 64 s.1 (segW sg) (segA 0 sg) wn h2 (by omega)
  rw [segW_app, segA_app]
  simp only [Int.toNat_natCast, segW, segA, Nat.add_zero]
  exact ⟨r1, r2⟩
def wasteS (k : Nat) : List (Nat × Nat) := if k = 0 then [(0, 1)] else [(1, 1), (0, k - 1), (1, 1)]
theorem wasteS_w (k : Nat) : segW (wasteS k) = 1 + k := by
  unfold wasteS
  split <;> simp [segW] <;> omega
theorem ws_waste (s : List Int × Int) (sg : List (Nat × Nat)) (h : WS s sg) (k : Nat) (hk : k ≤ 33) : WS (wasteP s (k : Int)) (sg ++ wasteS k) := by
  unfold wasteP wasteS
  by_cases c : k = 0
  · rw [if_pos (by omega), if_pos c]
    exact ws_put s sg h 0 1 (by decide) (by decide)
  · rw [if_neg (by omega), if_neg c]
    have a := ws_put s sg h 1 1 (by decide) (by decide)
    have b := ws_put _ _ a 0 ((k : Int) - 1) (by decide) (by omega)
    have d := ws_put _ _ b 1 1 (by decide) (by decide)
    rw [List.append_assoc, List.append_assoc] at d
    rw [show ((k : Int) - 1).toNat = k - 1 by omega] at d
    exact d
def numS (w : Int) (x : Int) : Nat × Nat := ((IntKind.u64.wrap x).toNat, w.toNat)
theorem ws_all (w : Int) (hw : 0 ≤ w ∧ w ≤ 64) : ∀ (l : List Int) (s : List Int × Int) (sg : List (Nat × Nat)), WS s sg → WS (allP s l w) (sg ++ l.map (numS w))
  | [], s, sg, h => by rw [List.map_nil, List.append_nil]; exact h
  | x :: l, s, sg, h => by
    have a := ws_put s sg h (IntKind.u64.wrap x) w (u64_rng x).1 hw
    have b := ws_all w hw l _ _ a
    rw [List.append_assoc] at b
    exact b
theorem segW_num (w : Int) : ∀ l : List Int, segW (l.map (numS w)) = l.length * w.toNat
  | [] => by simp [segW]
  | x :: l => by
    rw [List.map_cons, segW, segW_num w l, List.length_cons, Nat.add_mul, Nat.one_mul]
    show w.toNat + _ = _
    omega
theorem num_val (x : Int) (n : Nat) (hn : n ≤ 64) : (((IntKind.u64.wrap x).toNat % 2 ^ n : Nat) : Int) = x % (2 ^ n : Nat) := by
  rw [IntKind.wrap_u64, Int.natCast_emod, Int.toNat_of_nonneg (by omega)]
  refine Int.emod_emod_of_dvd _ ?_
  have : (2 ^ n : Nat) ∣ 2 ^ 64 := Nat.pow_dvd_pow 2 hn
  exact Int.natCast_dvd_natCast.mpr this
/-- What subframe.Put lays of a subframe told as its numbers are. -/
theorem laid (ys : List Int) (k n : Nat) (hk : k ≤ 33) (hn : 1 ≤ n ∧ n ≤ 40) (s : List Int × Int)
    (hs : s = allP (wasteP (wput1 ([], 0) (IntKind.u64.wrap 1) 7) (k : Int)) ys (n : Int)) :
    (∀ x ∈ s.1, 0 ≤ x ∧ x ≤ 255) ∧ s.1.length = (8 + k + ys.length * n + 7) / 8 ∧ bitsN s.1 0 1 = 0 ∧ bitsN s.1 1 6 = 1 ∧ (bitsN s.1 7 1 = if k = 0 then 0 else 1) ∧
    (∀ j, j < k → bitsN s.1 (8 + j) 1 = if j + 1 = k then 1 else 0) ∧ (∀ i (hi : i < ys.length), ((bitsN s.1 (8 + k + i * n) n : Nat) : Int) = ys[i] % (2 ^ n : Nat)) := by
  have h1 : WS (wput1 ([], 0) (IntKind.u64.wrap 1) 7) [(1, 7)] := ws_put ([], 0) [] ws_nil 1 7 (by decide) (by decide)
  have h2 := ws_waste _ _ h1 k hk
  have h3 := ws_all (n : Int) (by omega) ys _ _ h2
  rw [← hs] at h3
  obtain ⟨_, h4⟩ := h3
  have hW : segW ([(1, 7)] ++ wasteS k ++ ys.map (numS (n : Int))) = 8 + k + ys.length * n := by
    rw [segW_app, segW_app, wasteS_w, segW_num, Int.toNat_natCast]
    simp only [segW]
    omega
  have hb := h4.1
  have hl := h4.2.1
  rw [hW] at hl
  have h8 : 8 + k + ys.length * n ≤ 8 * s.1.length := by omega
  have b7 : bitsN s.1 0 7 = 1 := bits_seg s.1 [] (wasteS k ++ ys.map (numS (n : Int))) 1 7 h4
  refine ⟨hb, hl, ?_, ?_, ?_, ?_, ?_⟩
  · have := bits_sub s.1 0 7 0 1 (by omega) (by omega)
    rw [b7] at this
    exact this
  · have := bits_sub s.1 0 7 1 6 (by omega) (by omega)
    rw [b7] at this
    exact this
  · unfold wasteS at h4
    by_cases c : k = 0
    · rw [if_pos c] at h4 ⊢
      exact bits_seg s.1 [(1, 7)] (ys.map (numS (n : Int))) 0 1 h4
    · rw [if_neg c] at h4 ⊢
      exact bits_seg s.1 [(1, 7)] ((0, k - 1) :: (1, 1) :: ys.map (numS (n : Int))) 1 1 h4
  · intro j hj
    unfold wasteS at h4
    rw [if_neg (by omega)] at h4
    by_cases c : j + 1 = k
    · rw [if_pos c]
      have := bits_seg s.1 [(1, 7), (1, 1), (0, k - 1)] (ys.map (numS (n : Int))) 1 1 h4
      simp only [segW] at this
      rw [show 7 + (1 + (k - 1 + 0)) = 8 + j by omega] at this
      exact this
    · rw [if_neg c]
      have := bits_seg s.1 [(1, 7), (1, 1)] ((1, 1) :: ys.map (numS (n : Int))) 0 (k - 1) h4
      simp only [segW, Nat.zero_mod] at this
      have sub := bits_sub s.1 8 (k - 1) j 1 (by omega) (by omega)
      rw [show 7 + (1 + 0) = 8 by decide] at this
      rw [this, Nat.zero_div] at sub
      exact sub
  · intro i hi
    have e : [(1, 7)] ++ wasteS k ++ ys.map (numS (n : Int)) = ([(1, 7)] ++ wasteS k ++ (ys.take i).map (numS (n : Int))) ++ ((IntKind.u64.wrap ys[i]).toNat, n) :: (ys.drop (i + 1)).map (numS (n : Int)) := by
      have e1 : ys = ys.take i ++ ys[i] :: ys.drop (i + 1) := by rw [← List.drop_eq_getElem_cons hi, List.take_append_drop]
      conv => lhs; rw [e1]
      rw [List.map_append, List.map_cons, ← List.append_assoc]
      rfl
    rw [e] at h4
    have := bits_seg s.1 _ _ _ _ h4
    rw [segW_app, segW_app, wasteS_w, segW_num, List.length_take, Int.toNat_natCast, Nat.min_eq_left (by omega)] at this
    rw [show segW [(1, 7)] + (1 + k) + i * n = 8 + k + i * n by simp only [segW]; omega] at this
    rw [this]
    exact num_val _ n (by omega)
end Go.Proofs.Ytpeejdmbnlhjmaa.H
