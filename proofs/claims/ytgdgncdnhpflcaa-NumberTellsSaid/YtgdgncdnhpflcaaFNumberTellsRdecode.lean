import Derived.Test.YtgdgncdnhpflcaaPNumberTellsx5
import Derived.Test.YtgdgncdnhpflcaaLEv
import Derived.Test.YtgdgncdnhpflcaaLNum
import Derived.Test.YtgdgncdnhpflcaaLEnc
import Derived.Test.YtgdgncdnhpflcaaLDec
import Derived.Test.YtgdgncdnhpflcaaFNumberTellsRefsize
import Derived.Test.YtgdgncdnhpflcaaFNumberTellsRencode
namespace Go.Proofs.Ytgdgncdnhpflcaa.FNumberTells
open Go.RowKit Go.Proofs.YtgdgncdnhpflcaaW.PrintWords Go.Proofs.YtgdgncdnhpflcaaW.PrintLast Go.Proofs.Ytgdgncdnhpflcaa.PNumberTells Go.Proofs.Ytgdgncdnhpflcaa.L
set_option linter.unusedVariables false
set_option linter.unusedSimpArgs false
theorem rdec_loop (l : List Int) (hr : ∀ x ∈ l, 0 ≤ x ∧ x ≤ 255) (s : Int) (hs : 1 ≤ s ∧ s ≤ 7) (hl : l.length ≤ 1000000000) (j : Nat) : ∀ (n : Int) (i : Nat), (i : Int) + j = s → 0 ≤ n → (n + 1) * 64 ^ j ≤ 68719476736 →
    Ev (fun k => serinetteref03_Decode.l1 k l s n i) (decEnd s (decT j (l.drop i) n)) := by
  induction j with
  | zero =>
    intro n i hi h0 h1
    rw [Int.pow_zero] at h1
    refine Ev.step (fun k => serinetteref03_Decode.l1.eq_2 ..) ?_
    refine evF (by omega) ?_
    refine evB (rsize_in n h0 (by omega)) ?_
    show Ev _ (decEnd s (0, n))
    rw [decEnd_zero]
    exact evI (Ev.now _) (Ev.now _)
  | succ j ih =>
    intro n i hi h0 h1
    have hp : (1 : Int) ≤ 64 ^ j := by have := Int.pow_pos (n := 64) (m := j) (by omega); omega
    have h2 : (n + 1) * 64 * 1 ≤ (n + 1) * 64 * 64 ^ j := Int.mul_le_mul_of_nonneg_left hp (by omega)
    have h3 : (n + 1) * 64 * 64 ^ j = (n + 1) * 64 ^ (j + 1) := by rw [Int.pow_succ, Int.mul_assoc, Int.mul_comm 64]
    refine Ev.step (fun k => serinetteref03_Decode.l1.eq_2 ..) ?_
    refine evT (by omega) ?_
    by_cases c : (i : Int) ≥ (l.length : Int)
    · refine evT c ?_
      rw [List.drop_eq_nil_of_le (by omega)]
      exact Ev.now _
    refine evF c ?_
    have hlt : i < l.length := by omega
    have hx := hr l[i] (List.getElem_mem hlt)
    refine evT (by omega) ?_
    refine evT (by omega) ?_
    rw [rd_nat l i hlt, drop_cons_rd l i hlt]
    unfold decT
    by_cases c1 : l[i] < 128
    · refine evT c1 ?_
      rw [if_pos (Or.inl c1)]; exact Ev.now _
    refine evF c1 ?_
    by_cases c2 : l[i] > 191
    · refine evT c2 ?_
      rw [if_pos (Or.inr c2)]; exact Ev.now _
    refine evF c2 ?_
    rw [if_neg (by omega), wr (64 * n) (by omega), wr l[i] (by omega), wr (64 * n + l[i]) (by omega), wr (64 * n + l[i] - 128) (by omega), wr _ (by omega), show 64 * n + l[i] - 128 = 64 * n + (l[i] - 128) by omega]
    refine ih (64 * n + (l[i] - 128)) (i + 1) (by omega) (by omega) ?_
    have h4 : (64 * n + (l[i] - 128) + 1) * 64 ^ j ≤ ((n + 1) * 64) * 64 ^ j := Int.mul_le_mul_of_nonneg_right (by omega) (by omega)
    omega
theorem rdec_j2 (b : Int) (t : List Int) (hr : ∀ x ∈ b :: t, 0 ≤ x ∧ x ≤ 255) (hl : (b :: t).length ≤ 1000000000) (s : Int) (hs : 1 ≤ s ∧ s ≤ 7) (x : Bool) (hx : x = true → sizedOf b = 0) (hx' : x = false → sizedOf b = s) :
    Ev (fun k => serinetteref03_Decode.j2 k (b :: t) s x) (dec (b :: t)) := by
  have hb := hr b (by simp)
  refine Ev.step (fun k => serinetteref03_Decode.j2.eq_2 ..) ?_
  cases x with
  | true =>
    refine evT rfl ?_
    rw [dec_none b t (hx rfl)]
    exact Ev.now _
  | false =>
    have e := hx' rfl
    refine evF (by decide) ?_
    refine evT (by simp <;> omega) ?_
    refine evC (rlead s hs) ?_
    have hl2 : 0 ≤ lead s ∧ lead s ≤ 254 := by unfold lead; omega
    rw [show rd (b :: t) 0 = b from rfl, wr b (by omega), wr _ (by omega), dec_cons b t (by omega), e]
    have hf := first_low b hb (by omega)
    rw [e] at hf
    exact rdec_loop (b :: t) hr s hs hl (s.toNat - 1) (b - lead s) 1 (by omega) hf.1 hf.2
theorem rdec_j1 (b : Int) (t : List Int) (hr : ∀ x ∈ b :: t, 0 ≤ x ∧ x ≤ 255) (hl : (b :: t).length ≤ 1000000000) (s : Int) (hs : 1 ≤ s ∧ s ≤ 7) (h1 : b < 128 → s = 1) (h2 : 128 ≤ b → b < 192 → s = 1) (h3 : 192 ≤ b → b < 255 → sizedOf b = s ∧ 2 ≤ s) :
    Ev (fun k => serinetteref03_Decode.j1 k (b :: t) s) (dec (b :: t)) := by
  have hb := hr b (by simp)
  refine Ev.step (fun k => serinetteref03_Decode.j1.eq_2 ..) ?_
  refine evT (by simp <;> omega) ?_
  rw [show rd (b :: t) 0 = b from rfl]
  by_cases c1 : b = 255
  · refine evT c1 ?_
    exact rdec_j2 b t hr hl s hs true (fun _ => by rw [c1]; rfl) (fun h => by simp at h)
  refine evF c1 ?_
  by_cases c2 : b ≥ 128
  · refine evT c2 ?_
    by_cases c3 : b < 192
    · rw [show (s == 1) = true by simp [h2 c2 c3]]
      exact rdec_j2 b t hr hl s hs true (fun _ => by unfold sizedOf; rw [if_neg (by omega), if_pos c3]) (fun h => by simp at h)
    · have := h3 (by omega) (by omega)
      rw [show (s == 1) = false by simp; omega]
      exact rdec_j2 b t hr hl s hs false (fun h => by simp at h) (fun _ => this.1)
  · refine evF c2 ?_
    exact rdec_j2 b t hr hl s hs false (fun h => by simp at h) (fun _ => by unfold sizedOf; rw [if_pos (by omega), h1 (by omega)])
theorem rdec_l0 (b : Int) (t : List Int) (hr : ∀ x ∈ b :: t, 0 ≤ x ∧ x ≤ 255) (hl : (b :: t).length ≤ 1000000000) (hb128 : 128 ≤ b) (s : Nat) : ∀ (_ : 1 ≤ s ∧ s ≤ 7) (_ : s = 7 ∨ b < lead (s + 1)),
    Ev (fun k => serinetteref03_Decode.l0 k (b :: t) (s : Int)) (dec (b :: t)) := by
  have hb := hr b (by simp)
  induction s with
  | zero => intro h; omega
  | succ s ih =>
    intro h hlt
    refine Ev.step (fun k => serinetteref03_Decode.l0.eq_2 ..) ?_
    have hcases : s = 0 ∨ s = 1 ∨ s = 2 ∨ s = 3 ∨ s = 4 ∨ s = 5 ∨ s = 6 := by omega
    by_cases c : ((s + 1 : Nat) : Int) > 1
    · refine evT c ?_
      refine evT (by simp <;> omega) ?_
      refine evC (rlead _ (by omega)) ?_
      rw [show rd (b :: t) 0 = b from rfl, wr b (by omega)]
      by_cases c2 : b < lead ((s + 1 : Nat) : Int)
      · refine evT c2 ?_
        rw [wr _ (by omega), show ((s + 1 : Nat) : Int) - 1 = (s : Int) by omega]
        refine ih (by omega) (Or.inr ?_)
        rw [show ((s : Int) + 1) = ((s + 1 : Nat) : Int) by omega]
        exact c2
      · refine evF c2 ?_
        refine rdec_j1 b t hr hl _ (by omega) (fun h => by omega) (fun h1 h2 => ?_) (fun h1 h2 => ?_)
        · exfalso
          rcases hcases with rfl | rfl | rfl | rfl | rfl | rfl | rfl
          · omega
          all_goals (simp [lead] at c2; omega)
        · refine ⟨?_, by omega⟩
          unfold sizedOf
          rcases hcases with rfl | rfl | rfl | rfl | rfl | rfl | rfl
          · omega
          all_goals
            simp [lead] at c2 hlt
            first
            | (rw [if_neg (by omega), if_neg (by omega), if_pos (by omega)]; rfl)
            | (rw [if_neg (by omega), if_neg (by omega), if_neg (by omega), if_pos (by omega)]; rfl)
            | (rw [if_neg (by omega), if_neg (by omega), if_neg (by omega), if_neg (by omega), if_pos (by omega)]; rfl)
            | (rw [if_neg (by omega), if_neg (by omega), if_neg (by omega), if_neg (by omega), if_neg (by omega), if_pos (by omega)]; rfl)
            | (rw [if_neg (by omega), if_neg (by omega), if_neg (by omega), if_neg (by omega), if_neg (by omega), if_neg (by omega), if_pos (by omega)]; rfl)
            | (rw [if_neg (by omega), if_neg (by omega), if_neg (by omega), if_neg (by omega), if_neg (by omega), if_neg (by omega), if_neg (by omega), if_pos (by omega)]; rfl)
    · refine evF c ?_
      have e0 : s = 0 := by omega
      subst e0
      refine rdec_j1 b t hr hl _ (by omega) (fun _ => rfl) (fun _ _ => rfl) (fun h1 h2 => ?_)
      exfalso
      rcases hlt with h | h
      · omega
      · simp [lead] at h; omega
theorem rdec_ev (l : List Int) (hr : ∀ x ∈ l, 0 ≤ x ∧ x ≤ 255) (hl : l.length ≤ 1000000000) : Ev (fun k => serinetteref03_Decode.f k l) (dec l) := by
  unfold serinetteref03_Decode.f
  cases l with
  | nil => exact evT rfl (Ev.now _)
  | cons b t =>
    refine evF (by simp <;> omega) ?_
    refine evT (by simp <;> omega) ?_
    rw [show rd (b :: t) 0 = b from rfl]
    by_cases c : b ≥ 128
    · refine evT c ?_
      exact rdec_l0 b t hr hl c 7 (by omega) (Or.inl rfl)
    · refine evF c ?_
      exact rdec_j1 b t hr hl 1 (by omega) (fun _ => rfl) (fun _ _ => rfl) (fun h1 _ => by omega)
theorem rsize_out (n : Int) (h : n < 0 ∨ n > 68719476735) : Ev (fun k => serinetteref03_Size.f k n) 0 := by
  unfold serinetteref03_Size.f
  by_cases c : n < 0
  · refine evT c ?_
    refine Ev.step (fun k => serinetteref03_Size.j0.eq_2 ..) ?_
    exact evT rfl (Ev.now _)
  · refine evF c ?_
    refine Ev.step (fun k => serinetteref03_Size.j0.eq_2 ..) ?_
    exact evT (decide_eq_true (by omega)) (Ev.now _)
theorem renc_out (n : Int) (h : n < 0 ∨ n > 68719476735) : Ev (fun k => serinetteref03_Encode.f k n) ([], 6) := by
  unfold serinetteref03_Encode.f
  refine evB (rsize_out n h) ?_
  exact evT rfl (Ev.now _)
end Go.Proofs.Ytgdgncdnhpflcaa.FNumberTells
