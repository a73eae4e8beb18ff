import Derived.Test.YtgdgncdnhpflcaaPNumberTellsx5
import Derived.Test.YtgdgncdnhpflcaaLEv
import Derived.Test.YtgdgncdnhpflcaaLNum
namespace Go.Proofs.Ytgdgncdnhpflcaa.FNumberTells
open Go.RowKit Go.Proofs.YtgdgncdnhpflcaaW.PrintWords Go.Proofs.YtgdgncdnhpflcaaW.PrintLast Go.Proofs.Ytgdgncdnhpflcaa.PNumberTells Go.Proofs.Ytgdgncdnhpflcaa.L
set_option linter.unusedVariables false
set_option linter.unusedSimpArgs false
theorem rroom_at (s t : Int) (h : serinetteref03_Room.f s = some t) : serinetteref03_Room.f s = some t := h
theorem rsize_inner (n s t r : Int) (ht : serinetteref03_Room.f s = some t) (ht' : t ≤ 36) (d : Nat) : ∀ (i : Nat), (i : Int) + d = t →
    Ev (fun k => serinetteref03_Size.l1 k n s (2 ^ (i + d)) t) r → Ev (fun k => serinetteref03_Size.l1 k n s (2 ^ i) i) r := by
  induction d with
  | zero =>
    intro i hi h
    have e : t = (i : Int) := by omega
    subst e
    exact h
  | succ d ih =>
    intro i hi h
    refine Ev.step (fun k => serinetteref03_Size.l1.eq_2 ..) ?_
    refine evC ht ?_
    refine evT (by omega) ?_
    have hp : (2 : Int) * 2 ^ i = 2 ^ (i + 1) := by rw [Int.pow_succ]; omega
    have hb : (2 : Int) ^ (i + 1) ≤ 2 ^ 36 := by
      have : (2 : Nat) ^ (i + 1) ≤ 2 ^ 36 := Nat.pow_le_pow_right (by omega) (by omega)
      exact_mod_cast this
    have h0 : (0 : Int) ≤ 2 ^ (i + 1) := Int.pow_nonneg (by omega)
    have hb' : (2 : Int) ^ (i + 1) ≤ 68719476736 := hb
    rw [hp, wr _ (by omega), wr _ (by omega)]
    have := ih (i + 1) (by omega) (by rw [show i + 1 + d = i + (d + 1) by omega]; exact h)
    exact this
theorem rsize_round (n s t p r : Int) (hs : s < 7) (hs' : 1 ≤ s) (ht : serinetteref03_Room.f s = some t) (ht' : 0 ≤ t ∧ t ≤ 36) (hp : p = 2 ^ t.toNat)
    (h : n < p → r = s) (h' : ¬ n < p → Ev (fun k => serinetteref03_Size.l0 k n (s + 1)) r) : Ev (fun k => serinetteref03_Size.l0 k n s) r := by
  refine Ev.step (fun k => serinetteref03_Size.l0.eq_2 ..) ?_
  refine evT hs ?_
  refine rsize_inner n s t r ht ht'.2 t.toNat 0 (by omega) ?_
  refine Ev.step (fun k => serinetteref03_Size.l1.eq_2 ..) ?_
  refine evC ht ?_
  refine evF (by omega) ?_
  rw [show 0 + t.toNat = t.toNat by omega, ← hp]
  by_cases e : n < p
  · rw [h e]; exact evT e (Ev.now _)
  · refine evF e ?_
    rw [wr _ (by omega)]
    exact h' e
theorem rsize_in (n : Int) (h0 : 0 ≤ n) (h1 : n ≤ 68719476735) : Ev (fun k => serinetteref03_Size.f k n) (nsize n) := by
  unfold serinetteref03_Size.f
  refine evF (by omega) ?_
  refine Ev.step (fun k => serinetteref03_Size.j0.eq_2 ..) ?_
  refine evF (by simp; omega) ?_
  refine rsize_round n 1 7 128 _ (by omega) (by omega) rfl (by omega) rfl (fun c => by unfold nsize; rw [if_pos (by omega)]) (fun c1 => ?_)
  refine rsize_round n 2 11 2048 _ (by omega) (by omega) rfl (by omega) rfl (fun c => by unfold nsize; rw [if_neg (by omega), if_pos (by omega)]) (fun c2 => ?_)
  refine rsize_round n 3 16 65536 _ (by omega) (by omega) rfl (by omega) rfl (fun c => by unfold nsize; rw [if_neg (by omega), if_neg (by omega), if_pos (by omega)]) (fun c3 => ?_)
  refine rsize_round n 4 21 2097152 _ (by omega) (by omega) rfl (by omega) rfl (fun c => by unfold nsize; rw [if_neg (by omega), if_neg (by omega), if_neg (by omega), if_pos (by omega)]) (fun c4 => ?_)
  refine rsize_round n 5 26 67108864 _ (by omega) (by omega) rfl (by omega) rfl (fun c => by unfold nsize; rw [if_neg (by omega), if_neg (by omega), if_neg (by omega), if_neg (by omega), if_pos (by omega)]) (fun c5 => ?_)
  refine rsize_round n 6 31 2147483648 _ (by omega) (by omega) rfl (by omega) rfl (fun c => by unfold nsize; rw [if_neg (by omega), if_neg (by omega), if_neg (by omega), if_neg (by omega), if_neg (by omega), if_pos (by omega)]) (fun c6 => ?_)
  refine Ev.step (fun k => serinetteref03_Size.l0.eq_2 ..) ?_
  refine evF (by omega) ?_
  unfold nsize
  rw [if_neg (by omega), if_neg (by omega), if_neg (by omega), if_neg (by omega), if_neg (by omega), if_neg (by omega)]
  exact Ev.now _
end Go.Proofs.Ytgdgncdnhpflcaa.FNumberTells
