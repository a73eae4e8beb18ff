/- Facts, put together from several texts. -/
import Derived.Test.YtbohlcccdcilkaaHrtake
import Derived.Test.YtbohlcccdcilkaaLEv
import Derived.Test.YtbohlcccdcilkaaLNum
import Derived.Test.YtbohlcccdcilkaaLEnc
import Derived.Test.YtbohlcccdcilkaaLDec2
import Derived.Test.YtbohlcccdcilkaaLBits
namespace Go.Proofs.Ytbohlcccdcilkaa.FRtake
open Go.RowKit Go.Proofs.YtbohlcccdcilkaaW.PrintWords Go.Proofs.YtbohlcccdcilkaaW.PrintLast Go.Proofs.Ytbohlcccdcilkaa.H Go.Proofs.Ytbohlcccdcilkaa.L
set_option linter.unusedVariables false
set_option linter.unusedSimpArgs false
theorem rroom_at (s t : Int) (h : serinetteref03_Room.f s = some t) : serinetteref03_Room.f s = some t := h
theorem rsize_inner (n s t r : Int) (ht : serinetteref03_Room.f s = some t) (ht' : t ≤ 36) (d : Nat) : ∀ (i : Nat), (i : Int) + d = t →
    Ev (fun k => serinetteref03_Size.l1 k n s (2 ^ (i + d)) t) r → Ev (fun k => serinetteref03_Size.l1 k n s (2 ^ i) i) r := by
  induction d with
  | zero =>
    intro i hi h
    have e : t = (i : Int) := by omega
    subst e
    exact h
  | succ d ih =>
    intro i hi h
    refine Ev.step (fun k => serinetteref03_Size.l1.eq_2 ..) ?_
    refine evC ht ?_
    refine evT (by omega) ?_
    have hp : (2 : Int) * 2 ^ i = 2 ^ (i + 1) := by rw [Int.pow_succ]; omega
    have hb : (2 : Int) ^ (i + 1) ≤ 2 ^ 36 := by
      have : (2 : Nat) ^ (i + 1) ≤ 2 ^ 36 := Nat.pow_le_pow_right (by omega) (by omega)
      exact_mod_cast this
    have h0 : (0 : Int) ≤ 2 ^ (i + 1) := Int.pow_nonneg (by omega)
    have hb' : (2 : Int) ^ (i + 1) ≤ 68719476736 := hb
    rw [hp, wr _ (by omega), wr _ (by omega)]
    have := ih (i + 1) (by omega) (by rw [show i + 1 + d = i + (d + 1) by omega]; exact h)
    exact this
theorem rsize_round (n s t p r : Int) (hs : s < 7) (hs' : 1 ≤ s) (ht : serinetteref03_Room.f s = some t) (ht' : 0 ≤ t ∧ t ≤ 36) (hp : p = 2 ^ t.toNat)
    (h : n < p → r = s) (h' : ¬ n < p → Ev (fun k => serinetteref03_Size.l0 k n (s + 1)) r) : Ev (fun k => serinetteref03_Size.l0 k n s) r := by
  refine Ev.step (fun k => serinetteref03_Size.l0.eq_2 ..) ?_
  refine evT hs ?_
  refine rsize_inner n s t r ht ht'.2 t.toNat 0 (by omega) ?_
  refine Ev.step (fun k => serinetteref03_Size.l1.eq_2 ..) ?_
  refine evC ht ?_
  refine evF (by omega) ?_
  rw [show 0 + t.toNat = t.toNat by omega, ← hp]
  by_cases e : n < p
  · rw [h e]; exact evT e (Ev.now _)
  · refine evF e ?_
    rw [wr _ (by omega)]
    exact h' e
theorem rsize_in (n : Int) (h0 : 0 ≤ n) (h1 : n ≤ 68719476735) : Ev (fun k => serinetteref03_Size.f k n) (nsize n) := by
  unfold serinetteref03_Size.f
  refine evF (by omega) ?_
  refine Ev.step (fun k => serinetteref03_Size.j0.eq_2 ..) ?_
  refine evF (by simp; omega) ?_
  refine rsize_round n 1 7 128 _ (by omega) (by omega) rfl (by omega) rfl (fun c => by unfold nsize; rw [if_pos (by omega)]) (fun c1 => ?_)
  refine rsize_round n 2 11 2048 _ (by omega) (by omega) rfl (by omega) rfl (fun c => by unfold nsize; rw [if_neg (by omega), if_pos (by omega)]) (fun c2 => ?_)
  refine rsize_round n 3 16 65536 _ (by omega) (by omega) rfl (by omega) rfl (fun c => by unfold nsize; rw [if_neg (by omega), if_neg (by omega), if_pos (by omega)]) (fun c3 => ?_)
  refine rsize_round n 4 21 2097152 _ (by omega) (by omega) rfl (by omega) rfl (fun c => by unfold nsize; rw [if_neg (by omega), if_neg (by omega), if_neg (by omega), if_pos (by omega)]) (fun c4 => ?_)
  refine rsize_round n 5 26 67108864 _ (by omega) (by omega) rfl (by omega) rfl (fun c => by unfold nsize; rw [if_neg (by omega), if_neg (by omega), if_neg (by omega), if_neg (by omega), if_pos (by omega)]) (fun c5 => ?_)
  refine rsize_round n 6 31 2147483648 _ (by omega) (by omega) rfl (by omega) rfl (fun c => by unfold nsize; rw [if_neg (by omega), if_neg (by omega), if_neg (by omega), if_neg (by omega), if_neg (by omega), if_pos (by omega)]) (fun c6 => ?_)
  refine Ev.step (fun k => serinetteref03_Size.l0.eq_2 ..) ?_
  refine evF (by omega) ?_
  unfold nsize
  rw [if_neg (by omega), if_neg (by omega), if_neg (by omega), if_neg (by omega), if_neg (by omega), if_neg (by omega)]
  exact Ev.now _
end Go.Proofs.Ytbohlcccdcilkaa.FRtake
namespace Go.Proofs.Ytbohlcccdcilkaa.FRtake
open Go.RowKit Go.Proofs.YtbohlcccdcilkaaW.PrintWords Go.Proofs.YtbohlcccdcilkaaW.PrintLast Go.Proofs.Ytbohlcccdcilkaa.H Go.Proofs.Ytbohlcccdcilkaa.L
set_option linter.unusedVariables false
set_option linter.unusedSimpArgs false
theorem rlead (s : Int) (h : 1 ≤ s ∧ s ≤ 7) : serinetteref03_Lead.f s = some (lead s) := by
  have : s = 1 ∨ s = 2 ∨ s = 3 ∨ s = 4 ∨ s = 5 ∨ s = 6 ∨ s = 7 := by omega
  rcases this with rfl | rfl | rfl | rfl | rfl | rfl | rfl <;> decide +kernel
end Go.Proofs.Ytbohlcccdcilkaa.FRtake
namespace Go.Proofs.Ytbohlcccdcilkaa.FRtake
open Go.RowKit Go.Proofs.YtbohlcccdcilkaaW.PrintWords Go.Proofs.YtbohlcccdcilkaaW.PrintLast Go.Proofs.Ytbohlcccdcilkaa.H Go.Proofs.Ytbohlcccdcilkaa.L
set_option linter.unusedVariables false
set_option linter.unusedSimpArgs false
theorem rdec_loop (l : List Int) (hr : ∀ x ∈ l, 0 ≤ x ∧ x ≤ 255) (s : Int) (hs : 1 ≤ s ∧ s ≤ 7) (hl : l.length ≤ 1000000000) (j : Nat) : ∀ (n : Int) (i : Nat), (i : Int) + j = s → 0 ≤ n → (n + 1) * 64 ^ j ≤ 68719476736 →
    Ev (fun k => serinetteref03_Decode.l1 k l s n i) (decEnd s (decT j (l.drop i) n)) := by
  induction j with
  | zero =>
    intro n i hi h0 h1
    rw [Int.pow_zero] at h1
    refine Ev.step (fun k => serinetteref03_Decode.l1.eq_2 ..) ?_
    refine evF (by omega) ?_
    refine evB (rsize_in n h0 (by omega)) ?_
    show Ev _ (decEnd s (0, n))
    rw [decEnd_zero]
    exact evI (Ev.now _) (Ev.now _)
  | succ j ih =>
    intro n i hi h0 h1
    have hp : (1 : Int) ≤ 64 ^ j := by have := Int.pow_pos (n := 64) (m := j) (by omega); omega
    have h2 : (n + 1) * 64 * 1 ≤ (n + 1) * 64 * 64 ^ j := Int.mul_le_mul_of_nonneg_left hp (by omega)
    have h3 : (n + 1) * 64 * 64 ^ j = (n + 1) * 64 ^ (j + 1) := by rw [Int.pow_succ, Int.mul_assoc, Int.mul_comm 64]
    refine Ev.step (fun k => serinetteref03_Decode.l1.eq_2 ..) ?_
    refine evT (by omega) ?_
    by_cases c : (i : Int) ≥ (l.length : Int)
    · refine evT c ?_
      rw [List.drop_eq_nil_of_le (by omega)]
      exact Ev.now _
    refine evF c ?_
    have hlt : i < l.length := by omega
    have hx := hr l[i] (List.getElem_mem hlt)
    refine evT (by omega) ?_
    refine evT (by omega) ?_
    rw [rd_nat l i hlt, drop_cons_rd l i hlt]
    unfold decT
    by_cases c1 : l[i] < 128
    · refine evT c1 ?_
      rw [if_pos (Or.inl c1)]; exact Ev.now _
    refine evF c1 ?_
    by_cases c2 : l[i] > 191
    · refine evT c2 ?_
      rw [if_pos (Or.inr c2)]; exact Ev.now _
    refine evF c2 ?_
    rw [if_neg (by omega), wr (64 * n) (by omega), wr l[i] (by omega), wr (64 * n + l[i]) (by omega), wr (64 * n + l[i] - 128) (by omega), wr _ (by omega), show 64 * n + l[i] - 128 = 64 * n + (l[i] - 128) by omega]
    refine ih (64 * n + (l[i] - 128)) (i + 1) (by omega) (by omega) ?_
    have h4 : (64 * n + (l[i] - 128) + 1) * 64 ^ j ≤ ((n + 1) * 64) * 64 ^ j := Int.mul_le_mul_of_nonneg_right (by omega) (by omega)
    omega
theorem rdec_j2 (b : Int) (t : List Int) (hr : ∀ x ∈ b :: t, 0 ≤ x ∧ x ≤ 255) (hl : (b :: t).length ≤ 1000000000) (s : Int) (hs : 1 ≤ s ∧ s ≤ 7) (x : Bool) (hx : x = true → sizedOf b = 0) (hx' : x = false → sizedOf b = s) :
    Ev (fun k => serinetteref03_Decode.j2 k (b :: t) s x) (dec (b :: t)) := by
  have hb := hr b (by simp)
  refine Ev.step (fun k => serinetteref03_Decode.j2.eq_2 ..) ?_
  cases x with
  | true =>
    refine evT rfl ?_
    rw [dec_none b t (hx rfl)]
    exact Ev.now _
  | false =>
    have e := hx' rfl
    refine evF (by decide) ?_
    refine evT (by simp <;> omega) ?_
    refine evC (rlead s hs) ?_
    have hl2 : 0 ≤ lead s ∧ lead s ≤ 254 := by unfold lead; omega
    rw [show rd (b :: t) 0 = b from rfl, wr b (by omega), wr _ (by omega), dec_cons b t (by omega), e]
    have hf := first_low b hb (by omega)
    rw [e] at hf
    exact rdec_loop (b :: t) hr s hs hl (s.toNat - 1) (b - lead s) 1 (by omega) hf.1 hf.2
theorem rdec_j1 (b : Int) (t : List Int) (hr : ∀ x ∈ b :: t, 0 ≤ x ∧ x ≤ 255) (hl : (b :: t).length ≤ 1000000000) (s : Int) (hs : 1 ≤ s ∧ s ≤ 7) (h1 : b < 128 → s = 1) (h2 : 128 ≤ b → b < 192 → s = 1) (h3 : 192 ≤ b → b < 255 → sizedOf b = s ∧ 2 ≤ s) :
    Ev (fun k => serinetteref03_Decode.j1 k (b :: t) s) (dec (b :: t)) := by
  have hb := hr b (by simp)
  refine Ev.step (fun k => serinetteref03_Decode.j1.eq_2 ..) ?_
  refine evT (by simp <;> omega) ?_
  rw [show rd (b :: t) 0 = b from rfl]
  by_cases c1 : b = 255
  · refine evT c1 ?_
    exact rdec_j2 b t hr hl s hs true (fun _ => by rw [c1]; rfl) (fun h => by simp at h)
  refine evF c1 ?_
  by_cases c2 : b ≥ 128
  · refine evT c2 ?_
    by_cases c3 : b < 192
    · rw [show (s == 1) = true by simp [h2 c2 c3]]
      exact rdec_j2 b t hr hl s hs true (fun _ => by unfold sizedOf; rw [if_neg (by omega), if_pos c3]) (fun h => by simp at h)
    · have := h3 (by omega) (by omega)
      rw [show (s == 1) = false by simp; omega]
      exact rdec_j2 b t hr hl s hs false (fun h => by simp at h) (fun _ => this.1)
  · refine evF c2 ?_
    exact rdec_j2 b t hr hl s hs false (fun h => by simp at h) (fun _ => by unfold sizedOf; rw [if_pos (by omega), h1 (by omega)])
theorem rdec_l0 (b : Int) (t : List Int) (hr : ∀ x ∈ b :: t, 0 ≤ x ∧ x ≤ 255) (hl : (b :: t).length ≤ 1000000000) (hb128 : 128 ≤ b) (s : Nat) : ∀ (_ : 1 ≤ s ∧ s ≤ 7) (_ : s = 7 ∨ b < lead (s + 1)),
    Ev (fun k => serinetteref03_Decode.l0 k (b :: t) (s : Int)) (dec (b :: t)) := by
  have hb := hr b (by simp)
  induction s with
  | zero => intro h; omega
  | succ s ih =>
    intro h hlt
    refine Ev.step (fun k => serinetteref03_Decode.l0.eq_2 ..) ?_
    have hcases : s = 0 ∨ s = 1 ∨ s = 2 ∨ s = 3 ∨ s = 4 ∨ s = 5 ∨ s = 6 := by omega
    by_cases c : ((s + 1 : Nat) : Int) > 1
    · refine evT c ?_
      refine evT (by simp <;> omega) ?_
      refine evC (rlead _ (by omega)) ?_
      rw [show rd (b :: t) 0 = b from rfl, wr b (by omega)]
      by_cases c2 : b < lead ((s + 1 : Nat) : Int)
      · refine evT c2 ?_
        rw [wr _ (by omega), show ((s + 1 : Nat) : Int) - 1 = (s : Int) by omega]
        refine ih (by omega) (Or.inr ?_)
        rw [show ((s : Int) + 1) = ((s + 1 : Nat) : Int) by omega]
        exact c2
      · refine evF c2 ?_
        refine rdec_j1 b t hr hl _ (by omega) (fun h => by omega) (fun h1 h2 => ?_) (fun h1 h2 => ?_)
        · exfalso
          rcases hcases with rfl | rfl | rfl | rfl | rfl | rfl | rfl
          · omega
          all_goals (simp [lead] at c2; omega)
        · refine ⟨?_, by omega⟩
          unfold sizedOf
          rcases hcases with rfl | rfl | rfl | rfl | rfl | rfl | rfl
          · omega
          all_goals
            simp [lead] at c2 hlt
            first
            | (rw [if_neg (by omega), if_neg (by omega), if_pos (by omega)]; rfl)
            | (rw [if_neg (by omega), if_neg (by omega), if_neg (by omega), if_pos (by omega)]; rfl)
            | (rw [if_neg (by omega), if_neg (by omega), if_neg (by omega), if_neg (by omega), if_pos (by omega)]; rfl)
            | (rw [if_neg (by omega), if_neg (by omega), if_neg (by omega), if_neg (by omega), if_neg (by omega), if_pos (by omega)]; rfl)
            | (rw [if_neg (by omega), if_neg (by omega), if_neg (by omega), if_neg (by omega), if_neg (by omega), if_neg (by omega), if_pos (by omega)]; rfl)
            | (rw [if_neg (by omega), if_neg (by omega), if_neg (by omega), if_neg (by omega), if_neg (by omega), if_neg (by omega), if_neg (by omega), if_pos (by omega)]; rfl)
    · refine evF c ?_
      have e0 : s = 0 := by omega
      subst e0
      refine rdec_j1 b t hr hl _ (by omega) (fun _ => rfl) (fun _ _ => rfl) (fun h1 h2 => ?_)
      exfalso
      rcases hlt with h | h
      · omega
      · simp [lead] at h; omega
theorem rdec_ev (l : List Int) (hr : ∀ x ∈ l, 0 ≤ x ∧ x ≤ 255) (hl : l.length ≤ 1000000000) : Ev (fun k => serinetteref03_Decode.f k l) (dec l) := by
  unfold serinetteref03_Decode.f
  cases l with
  | nil => exact evT rfl (Ev.now _)
  | cons b t =>
    refine evF (by simp <;> omega) ?_
    refine evT (by simp <;> omega) ?_
    rw [show rd (b :: t) 0 = b from rfl]
    by_cases c : b ≥ 128
    · refine evT c ?_
      exact rdec_l0 b t hr hl c 7 (by omega) (Or.inl rfl)
    · refine evF c ?_
      exact rdec_j1 b t hr hl 1 (by omega) (fun _ => rfl) (fun _ _ => rfl) (fun h1 _ => by omega)
theorem rsize_out (n : Int) (h : n < 0 ∨ n > 68719476735) : Ev (fun k => serinetteref03_Size.f k n) 0 := by
  unfold serinetteref03_Size.f
  by_cases c : n < 0
  · refine evT c ?_
    refine Ev.step (fun k => serinetteref03_Size.j0.eq_2 ..) ?_
    exact evT rfl (Ev.now _)
  · refine evF c ?_
    refine Ev.step (fun k => serinetteref03_Size.j0.eq_2 ..) ?_
    exact evT (decide_eq_true (by omega)) (Ev.now _)
end Go.Proofs.Ytbohlcccdcilkaa.FRtake
namespace Go.Proofs.Ytbohlcccdcilkaa.FRtake
open Go.RowKit Go.Proofs.YtbohlcccdcilkaaW.PrintWords Go.Proofs.YtbohlcccdcilkaaW.PrintLast Go.Proofs.Ytbohlcccdcilkaa.H Go.Proofs.Ytbohlcccdcilkaa.L
set_option linter.unusedVariables false
set_option linter.unusedSimpArgs false
theorem set_rep (i : Nat) (b : Bool) (l : List Bool) : (List.replicate (i + 1) false ++ l).set i b = List.replicate i false ++ (b :: l) := by
  rw [List.replicate_succ', List.append_assoc, List.set_append_right (s := List.replicate i false) i b (by simp)]
  simp
theorem rdigits_loop (w : Nat) : ∀ (n : Int) (out : List Bool), 0 ≤ n ∧ n ≤ 18446744073709551615 → w ≤ 64 →
    Ev (fun k => serinetteref01_Digits.l0 k n (List.replicate w false ++ out) ((w : Int) - 1)) (dig w n ++ out) := by
  induction w with
  | zero =>
    intro n out hn hw
    refine Ev.step (fun k => serinetteref01_Digits.l0.eq_2 ..) ?_
    refine evF (by omega) ?_
    simp only [List.replicate, List.nil_append, dig]
    exact Ev.now _
  | succ w ih =>
    intro n out hn hw
    refine Ev.step (fun k => serinetteref01_Digits.l0.eq_2 ..) ?_
    refine evT (by omega) ?_
    refine evT (by omega) ?_
    refine evT (by simp; omega) ?_
    rw [tmod_pos _ _ (by omega), tdiv_pos _ _ (by omega), wraps_u64 (n / 2) (by omega) (by omega), show (((w + 1 : Nat) : Int) - 1).toNat = w by omega, set_rep, wr _ (by omega), show (((w + 1 : Nat) : Int) - 1 - 1) = (w : Int) - 1 by omega]
    refine evR (ih (n / 2) ((n % 2 == 1) :: out) (by omega) (by omega)) ?_
    simp [dig]
theorem rdigits_ev (n w : Int) (hn : 0 ≤ n ∧ n ≤ 18446744073709551615) (hw : 0 ≤ w ∧ w ≤ 64) : Ev (fun k => serinetteref01_Digits.f k n w) (dig w.toNat n) := by
  unfold serinetteref01_Digits.f
  have e : serinetteref01_Width.f w = some w := by
    unfold serinetteref01_Width.f
    rw [mx_eq, mn_eq]
    congr 1
    omega
  refine evC e ?_
  refine evT (by omega) ?_
  refine evT (by omega) ?_
  rw [wr _ (by omega)]
  have := rdigits_loop w.toNat n [] hn (by omega)
  rw [List.append_nil, List.append_nil, show ((w.toNat : Nat) : Int) - 1 = w - 1 by omega] at this
  exact this
theorem rbits_loop (l : List Int) (hl : l.length ≤ 1000000000) (hr : ∀ x ∈ l, 0 ≤ x ∧ x ≤ 255) (d : Nat) : ∀ (i : Nat) (out : List Bool), i + d = l.length → out.length = 8 * i →
    Ev (fun k => serinetteref01_Bits.l0 k l out i) (out ++ bitsOf (l.drop i)) := by
  induction d with
  | zero =>
    intro i out hi ho
    refine Ev.step (fun k => serinetteref01_Bits.l0.eq_2 ..) ?_
    refine evF (by omega) ?_
    rw [List.drop_eq_nil_of_le (by omega)]
    simp only [bitsOf, List.flatMap_nil, List.append_nil]
    exact Ev.now _
  | succ d ih =>
    intro i out hi ho
    have hlt : i < l.length := by omega
    have hx := hr l[i] (List.getElem_mem hlt)
    refine Ev.step (fun k => serinetteref01_Bits.l0.eq_2 ..) ?_
    refine evT (by omega) ?_
    refine evT (by omega) ?_
    rw [rd_nat l i hlt, wraps_u64 _ (by omega) (by omega)]
    refine evB (rdigits_ev l[i] 8 (by omega) (by omega)) ?_
    refine evT (by rw [dig_length]; simp; omega) ?_
    rw [wr _ (by omega)]
    refine evR (ih (i + 1) (out ++ dig (Int.toNat 8) l[i]) (by omega) (by rw [List.length_append, dig_length]; simp; omega)) ?_
    unfold bitsOf
    rw [drop_cons_rd l i hlt, List.flatMap_cons, List.append_assoc]
    rfl
theorem rbits_ev (l : List Int) (hl : l.length ≤ 1000000000) (hr : ∀ x ∈ l, 0 ≤ x ∧ x ≤ 255) : Ev (fun k => serinetteref01_Bits.f k l) (bitsOf l) := by
  unfold serinetteref01_Bits.f
  exact rbits_loop l hl hr l.length 0 [] (by omega) rfl
end Go.Proofs.Ytbohlcccdcilkaa.FRtake
namespace Go.Proofs.Ytbohlcccdcilkaa.FRtake
open Go.RowKit Go.Proofs.YtbohlcccdcilkaaW.PrintWords Go.Proofs.YtbohlcccdcilkaaW.PrintLast Go.Proofs.Ytbohlcccdcilkaa.H Go.Proofs.Ytbohlcccdcilkaa.L
set_option linter.unusedVariables false
set_option linter.unusedSimpArgs false
theorem rgo_size (c : Int) (l : List Bool) (w by_ r : Int) (hw : w ≤ 30) (d : Nat) : ∀ (i : Nat), (i : Int) + d = w →
    Ev (fun k => serinetteref04_Go.l1 k c l by_ (2 ^ (i + d)) 0) r → Ev (fun k => serinetteref04_Go.l0 k c l w by_ (2 ^ i) i) r := by
  induction d with
  | zero =>
    intro i hi h
    refine Ev.step (fun k => serinetteref04_Go.l0.eq_2 ..) ?_
    refine evF (by omega) ?_
    exact h
  | succ d ih =>
    intro i hi h
    refine Ev.step (fun k => serinetteref04_Go.l0.eq_2 ..) ?_
    refine evT (by omega) ?_
    have hp : (2 : Int) * 2 ^ i = 2 ^ (i + 1) := by rw [Int.pow_succ]; omega
    have hb : (2 : Int) ^ (i + 1) ≤ 2 ^ 30 := by
      have : (2 : Nat) ^ (i + 1) ≤ 2 ^ 30 := Nat.pow_le_pow_right (by omega) (by omega)
      exact_mod_cast this
    have h0 : (0 : Int) ≤ 2 ^ (i + 1) := Int.pow_nonneg (by omega)
    have hb' : (2 : Int) ^ (i + 1) ≤ 1073741824 := hb
    rw [hp, wr _ (by omega), wr _ (by omega)]
    have := ih (i + 1) (by omega) (by rw [show i + 1 + d = i + (d + 1) by omega]; exact h)
    exact this
theorem rgo_loop (l : List Bool) (w by_ : Nat) (hw : 1 ≤ w ∧ w ≤ 30) (hb : by_ < 2 ^ w) (hl : l.length ≤ 1000000000000) (d : Nat) : ∀ (i : Nat) (c : Nat), i + d = l.length → c < 2 ^ w →
    Ev (fun k => serinetteref04_Go.l1 k (c : Int) l (by_ : Int) (2 ^ w) i) (crc w by_ c (l.drop i) : Int) := by
  have hp : (2 : Nat) ^ w ≤ 2 ^ 30 := Nat.pow_le_pow_right (by omega) (by omega)
  have hp0 : 0 < (2 : Nat) ^ w := Nat.two_pow_pos w
  have hpi : ((2 : Int) ^ w) = ((2 ^ w : Nat) : Int) := by simp
  have hq : (2 : Nat) ^ 30 = 1073741824 := rfl
  induction d with
  | zero =>
    intro i c hi hc
    refine Ev.step (fun k => serinetteref04_Go.l1.eq_2 ..) ?_
    refine evF (by omega) ?_
    rw [List.drop_eq_nil_of_le (by omega)]
    exact Ev.now _
  | succ d ih =>
    intro i c hi hc
    have hlt : i < l.length := by omega
    refine Ev.step (fun k => serinetteref04_Go.l1.eq_2 ..) ?_
    refine evT (by omega) ?_
    refine evF (by omega) ?_
    refine evT (by omega) ?_
    rw [wr (2 * (c : Int)) (by omega), tmod_pos _ _ (by omega), wr _ (by omega), hpi]
    have e1 : (2 * (c : Int)) % ((2 ^ w : Nat) : Int) = ((2 * c % 2 ^ w : Nat) : Int) := by simp
    have hm : 2 * c % 2 ^ w < 2 ^ w := Nat.mod_lt _ hp0
    have hr : rdOf false l (i : Int) = l[i] := by simp [rdOf, List.getD_eq_getElem?_getD, List.getElem?_eq_getElem hlt]
    have hd : decide (2 * (c : Int) ≥ ((2 ^ w : Nat) : Int)) = decide (2 ^ w ≤ 2 * c) := by rw [decide_eq_decide]; omega
    rw [e1, hr, hd, i64_xor _ _ (by omega) (by omega), drop_cons_rd' l i hlt]
    rw [← hpi]
    have s1 := ih (i + 1) (crcStep w by_ c l[i]) (by omega) (crcStep_lt w by_ c _ hb)
    refine evR ?_ (show (crc w by_ (crcStep w by_ c l[i]) (l.drop (i + 1)) : Int) = _ from rfl)
    by_cases e : (decide (2 ^ w ≤ 2 * c) != l[i]) = true
    · refine evT e ?_
      have : crcStep w by_ c l[i] = (2 * c % 2 ^ w) ^^^ by_ := by unfold crcStep; rw [if_pos e]
      rw [this] at s1 ⊢
      exact s1
    · refine evF e ?_
      have : crcStep w by_ c l[i] = 2 * c % 2 ^ w := by unfold crcStep; rw [if_neg e]
      rw [this] at s1 ⊢
      exact s1
theorem rgo_ev (c : Nat) (l : List Bool) (w by_ : Nat) (hw : 1 ≤ w ∧ w ≤ 30) (hb : by_ < 2 ^ w) (hl : l.length ≤ 1000000000000) (hc : c < 2 ^ w) :
    Ev (fun k => serinetteref04_Go.f k c l w by_) (crc w by_ c l : Int) := by
  unfold serinetteref04_Go.f
  refine rgo_size c l w by_ _ (by omega) w 0 (by omega) ?_
  rw [Nat.zero_add]
  exact rgo_loop l w by_ hw hb hl l.length 0 c (by omega) hc
end Go.Proofs.Ytbohlcccdcilkaa.FRtake
namespace Go.Proofs.Ytbohlcccdcilkaa.FRtake
open Go.RowKit Go.Proofs.YtbohlcccdcilkaaW.PrintWords Go.Proofs.YtbohlcccdcilkaaW.PrintLast Go.Proofs.Ytbohlcccdcilkaa.H Go.Proofs.Ytbohlcccdcilkaa.L
set_option linter.unusedVariables false
set_option linter.unusedSimpArgs false
theorem reight_ev (l : List Int) (hl : l.length ≤ 1000000000) (hr : ∀ x ∈ l, 0 ≤ x ∧ x ≤ 255) : Ev (fun k => serinetteref04_Eight.f k 0 l) (crc8 l) := by
  unfold serinetteref04_Eight.f
  refine evB (rbits_ev l hl hr) ?_
  have hb := bitsOf_length l
  have hc := crc8_rng l
  rw [wr 0 (by omega)]
  refine evB (rgo_ev 0 (bitsOf l) 8 7 (by omega) (by decide) (by omega) (by decide)) ?_
  refine evR (Ev.now _) ?_
  show crc8 l % 256 = crc8 l
  omega
end Go.Proofs.Ytbohlcccdcilkaa.FRtake
