import Derived.Test.YtgdgncdnhpflcaaPBoundTellsx6
import Derived.Test.YtgdgncdnhpflcaaLEv
import Derived.Test.YtgdgncdnhpflcaaLBits
namespace Go.Proofs.Ytgdgncdnhpflcaa.FBoundTells
open Go.RowKit Go.Proofs.YtgdgncdnhpflcaaW.PrintWords Go.Proofs.YtgdgncdnhpflcaaW.PrintLast Go.Proofs.Ytgdgncdnhpflcaa.PBoundTells Go.Proofs.Ytgdgncdnhpflcaa.L
set_option linter.unusedVariables false
set_option linter.unusedSimpArgs false
theorem rgo_size (c : Int) (l : List Bool) (w by_ r : Int) (hw : w ≤ 30) (d : Nat) : ∀ (i : Nat), (i : Int) + d = w →
    Ev (fun k => serinetteref04_Go.l1 k c l by_ (2 ^ (i + d)) 0) r → Ev (fun k => serinetteref04_Go.l0 k c l w by_ (2 ^ i) i) r := by
  induction d with
  | zero =>
    intro i hi h
    refine Ev.step (fun k => serinetteref04_Go.l0.eq_2 ..) ?_
    refine evF (by omega) ?_
    exact h
  | succ d ih =>
    intro i hi h
    refine Ev.step (fun k => serinetteref04_Go.l0.eq_2 ..) ?_
    refine evT (by omega) ?_
    have hp : (2 : Int) * 2 ^ i = 2 ^ (i + 1) := by rw [Int.pow_succ]; omega
    have hb : (2 : Int) ^ (i + 1) ≤ 2 ^ 30 := by
      have : (2 : Nat) ^ (i + 1) ≤ 2 ^ 30 := Nat.pow_le_pow_right (by omega) (by omega)
      exact_mod_cast this
    have h0 : (0 : Int) ≤ 2 ^ (i + 1) := Int.pow_nonneg (by omega)
    have hb' : (2 : Int) ^ (i + 1) ≤ 1073741824 := hb
    rw [hp, wr _ (by omega), wr _ (by omega)]
    have := ih (i + 1) (by omega) (by rw [show i + 1 + d = i + (d + 1) by omega]; exact h)
    exact this
theorem rgo_loop (l : List Bool) (w by_ : Nat) (hw : 1 ≤ w ∧ w ≤ 30) (hb : by_ < 2 ^ w) (hl : l.length ≤ 1000000000000) (d : Nat) : ∀ (i : Nat) (c : Nat), i + d = l.length → c < 2 ^ w →
    Ev (fun k => serinetteref04_Go.l1 k (c : Int) l (by_ : Int) (2 ^ w) i) (crc w by_ c (l.drop i) : Int) := by
  have hp : (2 : Nat) ^ w ≤ 2 ^ 30 := Nat.pow_le_pow_right (by omega) (by omega)
  have hp0 : 0 < (2 : Nat) ^ w := Nat.two_pow_pos w
  have hpi : ((2 : Int) ^ w) = ((2 ^ w : Nat) : Int) := by simp
  have hq : (2 : Nat) ^ 30 = 1073741824 := rfl
  induction d with
  | zero =>
    intro i c hi hc
    refine Ev.step (fun k => serinetteref04_Go.l1.eq_2 ..) ?_
    refine evF (by omega) ?_
    rw [List.drop_eq_nil_of_le (by omega)]
    exact Ev.now _
  | succ d ih =>
    intro i c hi hc
    have hlt : i < l.length := by omega
    refine Ev.step (fun k => serinetteref04_Go.l1.eq_2 ..) ?_
    refine evT (by omega) ?_
    refine evF (by omega) ?_
    refine evT (by omega) ?_
    rw [wr (2 * (c : Int)) (by omega), tmod_pos _ _ (by omega), wr _ (by omega), hpi]
    have e1 : (2 * (c : Int)) % ((2 ^ w : Nat) : Int) = ((2 * c % 2 ^ w : Nat) : Int) := by simp
    have hm : 2 * c % 2 ^ w < 2 ^ w := Nat.mod_lt _ hp0
    have hr : rdOf false l (i : Int) = l[i] := by simp [rdOf, List.getD_eq_getElem?_getD, List.getElem?_eq_getElem hlt]
    have hd : decide (2 * (c : Int) ≥ ((2 ^ w : Nat) : Int)) = decide (2 ^ w ≤ 2 * c) := by rw [decide_eq_decide]; omega
    rw [e1, hr, hd, i64_xor _ _ (by omega) (by omega), drop_cons_rd' l i hlt]
    rw [← hpi]
    have s1 := ih (i + 1) (crcStep w by_ c l[i]) (by omega) (crcStep_lt w by_ c _ hb)
    refine evR ?_ (show (crc w by_ (crcStep w by_ c l[i]) (l.drop (i + 1)) : Int) = _ from rfl)
    by_cases e : (decide (2 ^ w ≤ 2 * c) != l[i]) = true
    · refine evT e ?_
      have : crcStep w by_ c l[i] = (2 * c % 2 ^ w) ^^^ by_ := by unfold crcStep; rw [if_pos e]
      rw [this] at s1 ⊢
      exact s1
    · refine evF e ?_
      have : crcStep w by_ c l[i] = 2 * c % 2 ^ w := by unfold crcStep; rw [if_neg e]
      rw [this] at s1 ⊢
      exact s1
theorem rgo_ev (c : Nat) (l : List Bool) (w by_ : Nat) (hw : 1 ≤ w ∧ w ≤ 30) (hb : by_ < 2 ^ w) (hl : l.length ≤ 1000000000000) (hc : c < 2 ^ w) :
    Ev (fun k => serinetteref04_Go.f k c l w by_) (crc w by_ c l : Int) := by
  unfold serinetteref04_Go.f
  refine rgo_size c l w by_ _ (by omega) w 0 (by omega) ?_
  rw [Nat.zero_add]
  exact rgo_loop l w by_ hw hb hl l.length 0 c (by omega) hc
end Go.Proofs.Ytgdgncdnhpflcaa.FBoundTells
