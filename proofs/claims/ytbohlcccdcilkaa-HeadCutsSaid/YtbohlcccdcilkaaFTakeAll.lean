/- Facts, put together from several texts. -/
import Derived.Test.YtbohlcccdcilkaaHtake2
import Derived.Test.YtbohlcccdcilkaaLEv
import Derived.Test.YtbohlcccdcilkaaLNum
import Derived.Laws.BitsLemmas
import Derived.Test.YtbohlcccdcilkaaLEnc
import Derived.Test.YtbohlcccdcilkaaLBits
import Derived.Test.YtbohlcccdcilkaaLUtf
import Derived.Test.YtbohlcccdcilkaaLDec2
namespace Go.Proofs.Ytbohlcccdcilkaa.FTake
open Go.RowKit Go.Proofs.YtbohlcccdcilkaaW.PrintWords Go.Proofs.YtbohlcccdcilkaaW.PrintLast Go.Proofs.Ytbohlcccdcilkaa.H Go.Proofs.Ytbohlcccdcilkaa.L
set_option linter.unusedVariables false
set_option linter.unusedSimpArgs false
theorem room_one : number_room.f 1 = some 7 := rfl
theorem room_more (s : Int) (h : 2 ≤ s) (h' : s ≤ 7) : number_room.f s = some (5 * s + 1) := by
  unfold number_room.f
  rw [if_neg (by omega), wr (5 * s) (by omega), wr _ (by omega)]
theorem shr_nat (n : Int) (t : Int) (p : Int) (h : p = 2 ^ (min t.toNat 64)) : shr .i64 n t = n / p := by rw [h]; rfl
theorem size_loop (n : Int) (s t p r : Int) (ht : number_room.f s = some t) (h0 : 0 ≤ t) (hp : p = 2 ^ (min t.toNat 64)) (hs : 1 ≤ s ∧ s ≤ 7)
    (h : 0 < n / p → Ev (fun k => number_Size.l0 k n (s + 1)) r) (h' : ¬ 0 < n / p → r = s) : Ev (fun k => number_Size.l0 k n s) r := by
  refine Ev.step (fun k => number_Size.l0.eq_2 ..) ?_
  refine evC ht ?_
  refine evT h0 ?_
  rw [shr_nat n t p hp]
  by_cases e : 0 < n / p
  · refine evT e ?_
    rw [wr _ (by omega)]
    exact h e
  · rw [h' e]
    exact evF e (Ev.now _)
theorem size_in (n : Int) (h0 : 0 ≤ n) (h1 : n ≤ 68719476735) : Ev (fun k => number_Size.f k n) (nsize n) := by
  unfold number_Size.f
  refine evF (by omega) ?_
  refine Ev.step (fun k => number_Size.j0.eq_2 ..) ?_
  refine evF (by simp; omega) ?_
  refine size_loop n 1 7 128 _ (by decide +kernel) (by omega) rfl (by omega) (fun c1 => ?_) (fun c => by unfold nsize; rw [if_pos (by omega)])
  refine size_loop n 2 11 2048 _ (by decide +kernel) (by omega) rfl (by omega) (fun c2 => ?_) (fun c => by unfold nsize; rw [if_neg (by omega), if_pos (by omega)])
  refine size_loop n 3 16 65536 _ (by decide +kernel) (by omega) rfl (by omega) (fun c3 => ?_) (fun c => by unfold nsize; rw [if_neg (by omega), if_neg (by omega), if_pos (by omega)])
  refine size_loop n 4 21 2097152 _ (by decide +kernel) (by omega) rfl (by omega) (fun c4 => ?_) (fun c => by unfold nsize; rw [if_neg (by omega), if_neg (by omega), if_neg (by omega), if_pos (by omega)])
  refine size_loop n 5 26 67108864 _ (by decide +kernel) (by omega) rfl (by omega) (fun c5 => ?_) (fun c => by unfold nsize; rw [if_neg (by omega), if_neg (by omega), if_neg (by omega), if_neg (by omega), if_pos (by omega)])
  refine size_loop n 6 31 2147483648 _ (by decide +kernel) (by omega) rfl (by omega) (fun c6 => ?_) (fun c => by unfold nsize; rw [if_neg (by omega), if_neg (by omega), if_neg (by omega), if_neg (by omega), if_neg (by omega), if_pos (by omega)])
  refine size_loop n 7 36 68719476736 _ (by decide +kernel) (by omega) rfl (by omega) (fun c7 => ?_) (fun c => by unfold nsize; rw [if_neg (by omega), if_neg (by omega), if_neg (by omega), if_neg (by omega), if_neg (by omega), if_neg (by omega)])
  omega
end Go.Proofs.Ytbohlcccdcilkaa.FTake
namespace Go.Proofs.Ytbohlcccdcilkaa.FTake
open Go.RowKit Go.Proofs.YtbohlcccdcilkaaW.PrintWords Go.Proofs.YtbohlcccdcilkaaW.PrintLast Go.Proofs.Ytbohlcccdcilkaa.H Go.Proofs.Ytbohlcccdcilkaa.L
set_option linter.unusedVariables false
set_option linter.unusedSimpArgs false
theorem size_out (n : Int) (h : n < 0 ∨ n > 68719476735) : Ev (fun k => number_Size.f k n) 0 := by
  unfold number_Size.f
  by_cases c : n < 0
  · refine evT c ?_
    refine Ev.step (fun k => number_Size.j0.eq_2 ..) ?_
    exact evT rfl (Ev.now _)
  · refine evF c ?_
    refine Ev.step (fun k => number_Size.j0.eq_2 ..) ?_
    exact evT (decide_eq_true (by omega)) (Ev.now _)
theorem rune_ev (n : Int) : Ev (fun k => utf8_ValidRune.f k n) (decide ((0 ≤ n ∧ n < 55296) ∨ (57343 < n ∧ n ≤ 1114111))) := by
  have hj : ∀ x : Bool, Ev (fun k => utf8_ValidRune.j0 k n x) (x || decide (57343 < n ∧ n ≤ 1114111)) := by
    intro x
    refine Ev.step (fun k => utf8_ValidRune.j0.eq_2 ..) ?_
    cases x with
    | true => exact evT rfl (Ev.now _)
    | false =>
      refine evF (by decide) ?_
      by_cases c1 : 57343 < n
      · refine evT c1 ?_
        by_cases c2 : n ≤ 1114111
        · refine evT c2 ?_
          rw [Bool.false_or, decide_eq_true ⟨c1, c2⟩]; exact Ev.now _
        · refine evF c2 ?_
          rw [Bool.false_or, decide_eq_false (by omega)]; exact Ev.now _
      · refine evF c1 ?_
        rw [Bool.false_or, decide_eq_false (by omega)]; exact Ev.now _
  unfold utf8_ValidRune.f
  by_cases c : 0 ≤ n
  · refine evT c ?_
    refine evR (hj _) ?_
    rw [Bool.eq_iff_iff]; simp; omega
  · refine evF c ?_
    refine evR (hj _) ?_
    rw [Bool.eq_iff_iff]; simp; omega
theorem first_at (s : Int) (h : 1 ≤ s ∧ s ≤ 7) : number_first.f s = some (lead s) := by
  have : s = 1 ∨ s = 2 ∨ s = 3 ∨ s = 4 ∨ s = 5 ∨ s = 6 ∨ s = 7 := by omega
  rcases this with rfl | rfl | rfl | rfl | rfl | rfl | rfl <;> decide +kernel
theorem or_low (x : Int) : Go.bits .or .u8 128 ((Go.bits .and .i64 x 63) % 256) = 128 + x % 64 := by
  have e : Go.bits .and .i64 x 63 = x % 64 := i64_mask x 6 (by decide)
  rw [e, show x % 64 % 256 = x % 64 by omega]
  exact u8_or128 _ (by omega) (by omega)
theorem wraps_u8' (n : Int) (h₀ : 0 ≤ n) (h₁ : n < 2 ^ 8) : IntKind.u8.wrap n = n := wraps_u8 n h₀ h₁
theorem or_lead (s x : Int) (h : 1 ≤ s ∧ s ≤ 7) (h0 : 0 ≤ x) (hx : x < if s = 1 then 128 else if s = 2 then 32 else if s = 3 then 16 else if s = 4 then 8 else if s = 5 then 4 else if s = 6 then 2 else 1) : Go.bits .or .u8 (lead s) x = lead s + x := by
  have : s = 1 ∨ s = 2 ∨ s = 3 ∨ s = 4 ∨ s = 5 ∨ s = 6 ∨ s = 7 := by omega
  rcases this with rfl | rfl | rfl | rfl | rfl | rfl | rfl
  · exact bits_join .u8 8 (by decide) wraps_u8 7 _ x (by decide) (by decide) (by decide) h0 hx (by simp at hx; omega)
  · exact bits_join .u8 8 (by decide) wraps_u8 5 _ x (by decide) (by decide) (by decide) h0 hx (by simp at hx; omega)
  · exact bits_join .u8 8 (by decide) wraps_u8 4 _ x (by decide) (by decide) (by decide) h0 hx (by simp at hx; omega)
  · exact bits_join .u8 8 (by decide) wraps_u8 3 _ x (by decide) (by decide) (by decide) h0 hx (by simp at hx; omega)
  · exact bits_join .u8 8 (by decide) wraps_u8 2 _ x (by decide) (by decide) (by decide) h0 hx (by simp at hx; omega)
  · exact bits_join .u8 8 (by decide) wraps_u8 1 _ x (by decide) (by decide) (by decide) h0 hx (by simp at hx; omega)
  · exact bits_join .u8 8 (by decide) wraps_u8 0 _ x (by decide) (by decide) (by decide) h0 hx (by simp at hx; omega)
theorem enc_loop (s : Int) (hs : 1 ≤ s ∧ s ≤ 7) (j : Nat) : ∀ (n : Int) (out : List Int), 0 ≤ n ∧ n ≤ 68719476735 → (j : Int) + 1 + out.length = s →
    n / 64 ^ j < (if s = 1 then 128 else if s = 2 then 32 else if s = 3 then 16 else if s = 4 then 8 else if s = 5 then 4 else if s = 6 then 2 else 1) →
    Ev (fun k => number_Encode.l0 k n s (List.replicate (j + 1) 0 ++ out) j) ((lead s + n / 64 ^ j) :: (encTail j n ++ out), 0) := by
  induction j with
  | zero =>
    intro n out hn ho hh
    rw [Int.pow_zero, Int.ediv_one] at hh ⊢
    refine Ev.step (fun k => number_Encode.l0.eq_2 ..) ?_
    refine evF (by omega) ?_
    refine evC (first_at s hs) ?_
    refine evT (by simp) ?_
    have h256 : n % 256 = n := by split at hh <;> omega
    rw [h256, or_lead s n hs hn.1 hh]
    refine evR (Ev.now _) ?_
    rfl
  | succ j ih =>
    intro n out hn ho hh
    refine Ev.step (fun k => number_Encode.l0.eq_2 ..) ?_
    refine evT (by omega) ?_
    refine evT (by omega) ?_
    refine evT (by simp; omega) ?_
    have e : n / 64 / 64 ^ j = n / 64 ^ (j + 1) := by
      rw [Int.pow_succ, Int.mul_comm (64 ^ j) 64, Int.ediv_ediv_of_nonneg (by omega)]
    have es : (List.replicate (j + 1 + 1) (0 : Int) ++ out).set (((j + 1 : Nat) : Int)).toNat (128 + n % 64) = List.replicate (j + 1) 0 ++ ((128 + n % 64) :: out) := by
      rw [Int.toNat_natCast, List.replicate_succ', List.append_assoc, List.set_append_right (s := List.replicate (j + 1) (0 : Int)) (j + 1) _ (by simp)]
      simp
    rw [or_low, es, wr _ (by omega), show (((j + 1 : Nat) : Int) - 1) = (j : Int) by omega]
    refine evR (ih (n / 64) ((128 + n % 64) :: out) (by omega) (by simp; omega) (by rw [e]; exact hh)) ?_
    rw [e]
    simp [encTail]
theorem enc_j0 (n : Int) (h0 : 0 ≤ n) (h1 : n ≤ 68719476735) : Ev (fun k => number_Encode.j0 k n (nsize n)) (encBytes n, 0) := by
  have hs := nsize_rng n
  refine Ev.step (fun k => number_Encode.j0.eq_2 ..) ?_
  refine evT (by omega) ?_
  refine evT (by omega) ?_
  rw [wr _ (by omega)]
  have hh : n / 64 ^ ((nsize n).toNat - 1) < (if nsize n = 1 then 128 else if nsize n = 2 then 32 else if nsize n = 3 then 16 else if nsize n = 4 then 8 else if nsize n = 5 then 4 else if nsize n = 6 then 2 else 1) := by
    unfold nsize
    by_cases c1 : n < 128
    · rw [if_pos c1]; show n / 1 < 128; omega
    by_cases c2 : n < 2048
    · rw [if_neg c1, if_pos c2]; show n / 64 < 32; omega
    by_cases c3 : n < 65536
    · rw [if_neg c1, if_neg c2, if_pos c3]; show n / 4096 < 16; omega
    by_cases c4 : n < 2097152
    · rw [if_neg c1, if_neg c2, if_neg c3, if_pos c4]; show n / 262144 < 8; omega
    by_cases c5 : n < 67108864
    · rw [if_neg c1, if_neg c2, if_neg c3, if_neg c4, if_pos c5]; show n / 16777216 < 4; omega
    by_cases c6 : n < 2147483648
    · rw [if_neg c1, if_neg c2, if_neg c3, if_neg c4, if_neg c5, if_pos c6]; show n / 1073741824 < 2; omega
    · rw [if_neg c1, if_neg c2, if_neg c3, if_neg c4, if_neg c5, if_neg c6]; show n / 68719476736 < 1; omega
  have h := enc_loop (nsize n) hs ((nsize n).toNat - 1) n [] ⟨h0, h1⟩ (by simp; omega) hh
  rw [List.append_nil, List.append_nil, show (nsize n).toNat - 1 + 1 = (nsize n).toNat by omega, show (((nsize n).toNat - 1 : Nat) : Int) = nsize n - 1 by omega] at h
  exact h
theorem enc_in (n : Int) (h0 : 0 ≤ n) (h1 : n ≤ 68719476735) : Ev (fun k => number_Encode.f k n) (encBytes n, 0) := by
  have hs := nsize_rng n
  unfold number_Encode.f
  refine evB (size_in n h0 h1) ?_
  refine evF (by omega) ?_
  by_cases c : n ≤ 1114111
  · refine evT c ?_
    have hw : wrap32 n = n := by unfold wrap32; omega
    rw [hw]
    refine evB (rune_ev n) ?_
    by_cases v : (0 ≤ n ∧ n < 55296) ∨ (57343 < n ∧ n ≤ 1114111)
    · refine evT (decide_eq_true v) ?_
      have hu := utf_enc n h0 c (by omega)
      have hl := encBytes_length n
      have hb : (Utf8.encode n).size = (encBytes n).length := by rw [← hu, bytesOf_length]
      refine evT (by omega) ?_
      rw [hu]
      exact Ev.now _
    · refine evF (by simpa using v) ?_
      exact enc_j0 n h0 h1
  · exact evF c (enc_j0 n h0 h1)
theorem enc_out (n : Int) (h : n < 0 ∨ n > 68719476735) : Ev (fun k => number_Encode.f k n) ([], 6) := by
  unfold number_Encode.f
  refine evB (size_out n h) ?_
  exact evT rfl (Ev.now _)
end Go.Proofs.Ytbohlcccdcilkaa.FTake
namespace Go.Proofs.Ytbohlcccdcilkaa.FTake
open Go.RowKit Go.Proofs.YtbohlcccdcilkaaW.PrintWords Go.Proofs.YtbohlcccdcilkaaW.PrintLast Go.Proofs.Ytbohlcccdcilkaa.H Go.Proofs.Ytbohlcccdcilkaa.L
set_option linter.unusedVariables false
set_option linter.unusedSimpArgs false
theorem sized_all : ∀ b : Fin 256, number_sized.f 20 (b.val : Int) = some (sizedOf (b.val : Int)) := by decide +kernel
theorem sized_ev (b : Int) (h : 0 ≤ b ∧ b ≤ 255) : Ev (fun k => number_sized.f k b) (sizedOf b) := by
  have := sized_all ⟨b.toNat, by omega⟩
  rw [show ((b.toNat : Nat) : Int) = b from Int.toNat_of_nonneg h.1] at this
  exact Ev.of (fun k => number_sized.mono b k) this
theorem low_all : ∀ b : Fin 256, sizedOf (b.val : Int) = 0 ∨ wrap64 (Go.bits .andNot .u8 (b.val : Int) (lead (sizedOf (b.val : Int)))) = (b.val : Int) - lead (sizedOf (b.val : Int)) := by decide +kernel
theorem low_at (b : Int) (h : 0 ≤ b ∧ b ≤ 255) (hs : sizedOf b ≠ 0) : wrap64 (Go.bits .andNot .u8 b (lead (sizedOf b))) = b - lead (sizedOf b) := by
  have := low_all ⟨b.toNat, by omega⟩
  rw [show ((b.toNat : Nat) : Int) = b from Int.toNat_of_nonneg h.1] at this
  exact this.resolve_left hs
theorem tail_all : ∀ b : Fin 256, (Go.bits .and .u8 (b.val : Int) 192 = 128 ↔ 128 ≤ (b.val : Int) ∧ (b.val : Int) ≤ 191) ∧ (128 ≤ (b.val : Int) → (b.val : Int) ≤ 191 → wrap64 (Go.bits .and .u8 (b.val : Int) 63) = (b.val : Int) - 128) := by decide +kernel
theorem tail_at (b : Int) (h : 0 ≤ b ∧ b ≤ 255) : (Go.bits .and .u8 b 192 = 128 ↔ 128 ≤ b ∧ b ≤ 191) ∧ (128 ≤ b → b ≤ 191 → wrap64 (Go.bits .and .u8 b 63) = b - 128) := by
  have := tail_all ⟨b.toNat, by omega⟩
  rw [show ((b.toNat : Nat) : Int) = b from Int.toNat_of_nonneg h.1] at this
  exact this
theorem join64 (n y : Int) (hn : 0 ≤ n ∧ n ≤ 68719476736) (hy : 0 ≤ y ∧ y < 64) : Go.bits .or .i64 (wrap64 (n * 64)) y = 64 * n + y := by
  rw [wr _ (by omega), bits_join .i64 63 (by decide) wraps_i64 6 (n * 64) y (by omega) (by omega) (by omega) hy.1 (by omega) (by omega)]
  omega
theorem dec_loop (l : List Int) (hr : ∀ x ∈ l, 0 ≤ x ∧ x ≤ 255) (s : Int) (hs : 1 ≤ s ∧ s ≤ 7) (hl : l.length ≤ 1000000000) (j : Nat) : ∀ (n : Int) (i : Nat), (i : Int) + j = s → 0 ≤ n → (n + 1) * 64 ^ j ≤ 68719476736 →
    Ev (fun k => number_Decode.l0 k l n s i) (decEnd s (decT j (l.drop i) n)) := by
  induction j with
  | zero =>
    intro n i hi h0 h1
    rw [Int.pow_zero] at h1
    refine Ev.step (fun k => number_Decode.l0.eq_2 ..) ?_
    refine evF (by omega) ?_
    refine evB (size_in n h0 (by omega)) ?_
    show Ev _ (decEnd s (0, n))
    rw [decEnd_zero]
    exact evI (Ev.now _) (Ev.now _)
  | succ j ih =>
    intro n i hi h0 h1
    have hp : (1 : Int) ≤ 64 ^ j := by have := Int.pow_pos (n := 64) (m := j) (by omega); omega
    have h2 : (n + 1) * 64 * 1 ≤ (n + 1) * 64 * 64 ^ j := Int.mul_le_mul_of_nonneg_left hp (by omega)
    have h3 : (n + 1) * 64 * 64 ^ j = (n + 1) * 64 ^ (j + 1) := by rw [Int.pow_succ, Int.mul_assoc, Int.mul_comm 64]
    refine Ev.step (fun k => number_Decode.l0.eq_2 ..) ?_
    refine evT (by omega) ?_
    by_cases c : (i : Int) ≥ (l.length : Int)
    · refine evT c ?_
      rw [List.drop_eq_nil_of_le (by omega)]
      exact Ev.now _
    refine evF c ?_
    have hlt : i < l.length := by omega
    have hx := hr l[i] (List.getElem_mem hlt)
    have ht := tail_at l[i] hx
    refine evT (by omega) ?_
    refine evT (by omega) ?_
    rw [rd_nat l i hlt, drop_cons_rd l i hlt]
    unfold decT
    by_cases c2 : 128 ≤ l[i] ∧ l[i] ≤ 191
    · refine evT (ht.1.2 c2) ?_
      rw [if_neg (by omega), ht.2 c2.1 c2.2, join64 n (l[i] - 128) (by omega) (by omega), wr _ (by omega)]
      refine ih (64 * n + (l[i] - 128)) (i + 1) (by omega) (by omega) ?_
      have h4 : (64 * n + (l[i] - 128) + 1) * 64 ^ j ≤ ((n + 1) * 64) * 64 ^ j := Int.mul_le_mul_of_nonneg_right (by omega) (by omega)
      omega
    · refine evF (fun h => c2 (ht.1.1 h)) ?_
      rw [if_pos (by omega)]
      exact Ev.now _
theorem dec_ev (l : List Int) (hr : ∀ x ∈ l, 0 ≤ x ∧ x ≤ 255) (hl : l.length ≤ 1000000000) : Ev (fun k => number_Decode.f k l) (dec l) := by
  unfold number_Decode.f
  cases l with
  | nil => exact evT rfl (Ev.now _)
  | cons b t =>
    have hb := hr b (by simp)
    have hs := sizedOf_rng b
    refine evF (by simp <;> omega) ?_
    refine evT (by simp <;> omega) ?_
    rw [show rd (b :: t) 0 = b from rfl]
    refine evB (sized_ev b hb) ?_
    by_cases c : sizedOf b = 0
    · refine evT c ?_
      rw [dec_none b t c]
      exact Ev.now _
    refine evF c ?_
    refine evC (first_at (sizedOf b) (by omega)) ?_
    rw [low_at b hb c, dec_cons b t c]
    have hf := first_low b hb c
    exact dec_loop (b :: t) hr (sizedOf b) (by omega) hl ((sizedOf b).toNat - 1) (b - lead (sizedOf b)) 1 (by omega) hf.1 hf.2
end Go.Proofs.Ytbohlcccdcilkaa.FTake
