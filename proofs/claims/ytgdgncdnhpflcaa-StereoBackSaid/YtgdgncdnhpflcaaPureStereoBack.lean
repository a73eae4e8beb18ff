/- The statement StereoBack: what was split is joined, by each mode, and each part is in its depth. For up to a hundred samples of two channels, a depth, a mode. -/
import Derived.Test.YtgdgncdnhpflcaaPStereoBackx2
import Derived.Test.YtgdgncdnhpflcaaLEv
import Derived.Test.YtgdgncdnhpflcaaLMask
import Derived.Test.YtgdgncdnhpflcaaLPairs
import Derived.Test.YtgdgncdnhpflcaaLDepth
import Derived.Test.YtgdgncdnhpflcaaFStereoBackInts
import Derived.Test.YtgdgncdnhpflcaaFStereoBackBoth
import Derived.Test.YtgdgncdnhpflcaaFStereoBackIn
namespace Go.Proofs.Ytgdgncdnhpflcaa.Pure
open Go.RowKit Go.Proofs.YtgdgncdnhpflcaaW.PrintWords Go.Proofs.YtgdgncdnhpflcaaW.PrintLast Go.Proofs.Ytgdgncdnhpflcaa.PStereoBack Go.Proofs.Ytgdgncdnhpflcaa.H Go.Proofs.Ytgdgncdnhpflcaa.L Go.Proofs.Ytgdgncdnhpflcaa.FStereoBack
set_option linter.unusedVariables false
set_option linter.unusedSimpArgs false
theorem awake21 : Ev (fun k => serinettelaw21_awake.f k) true := Ev.of (k := 10) serinettelaw21_awake.mono (by decide +kernel)
def mode4 (m : Int) : Prop := m = 1 ∨ m = 8 ∨ m = 9 ∨ m = 10
instance (m : Int) : Decidable (mode4 m) := inferInstanceAs (Decidable (_ ∨ _))
theorem back_pair (m : Int) (hm : mode4 m) (x y : Int) : jnn m (spl m x y).1 (spl m x y).2 = (x, y) := by
  rcases hm with rfl | rfl | rfl | rfl
  · rfl
  · show (x, x - (x - y)) = (x, y)
    rw [Prod.mk.injEq]; omega
  · show (x - y + y, y) = (x, y)
    rw [Prod.mk.injEq]; omega
  · show ((2 * ((x + y) / 2) + (x - y) % 2 + (x - y)) / 2, (2 * ((x + y) / 2) + (x - y) % 2 + (x - y)) / 2 - (x - y)) = (x, y)
    rw [Prod.mk.injEq]; omega
/-- A channel's depth. -/
def deep (m c d : Int) : Int := if (m = 8 ∨ m = 10) ∧ c = 1 ∨ m = 9 ∧ c = 0 then d + 1 else d
theorem deep_some (m c d : Int) (hm : mode4 m) (hc : c = 0 ∨ c = 1) (hd : 4 ≤ d ∧ d ≤ 32) : stereo_Deep.f m c d = some (deep m c d) := by
  unfold stereo_Deep.f deep
  rw [wr _ (by omega)]
  rcases hm with rfl | rfl | rfl | rfl <;> rcases hc with rfl | rfl <;> simp
theorem part_depth (m d : Int) (hm : mode4 m) (hd : 4 ≤ d ∧ d ≤ 32) (x y : Int) (hx : -(2 ^ (d - 1).toNat) < x ∧ x < 2 ^ (d - 1).toNat) (hy : -(2 ^ (d - 1).toNat) < y ∧ y < 2 ^ (d - 1).toNat) :
    inDepth (spl m x y).1 (deep m 0 d) ∧ inDepth (spl m x y).2 (deep m 1 d) := by
  have e : (2 : Int) ^ (d + 1 - 1).toNat = 2 * 2 ^ (d - 1).toNat := by
    rw [show (d + 1 - 1).toNat = (d - 1).toNat + 1 by omega, Int.pow_succ]; omega
  unfold inDepth
  rcases hm with rfl | rfl | rfl | rfl
  · show (_ ≤ x ∧ x < _) ∧ (_ ≤ y ∧ y < _)
    rw [show deep 1 0 d = d from rfl, show deep 1 1 d = d from rfl]; omega
  · show (_ ≤ x ∧ x < _) ∧ (_ ≤ x - y ∧ x - y < _)
    rw [show deep 8 0 d = d from rfl, show deep 8 1 d = d + 1 from rfl, e]; omega
  · show (_ ≤ x - y ∧ x - y < _) ∧ (_ ≤ y ∧ y < _)
    rw [show deep 9 0 d = d + 1 from rfl, show deep 9 1 d = d from rfl, e]; omega
  · show (_ ≤ (x + y) / 2 ∧ (x + y) / 2 < _) ∧ (_ ≤ x - y ∧ x - y < _)
    rw [show deep 10 0 d = d from rfl, show deep 10 1 d = d + 1 from rfl, e]; omega
theorem back_check (m d : Int) (hm : mode4 m) (hd : 4 ≤ d ∧ d ≤ 32) (X Y A B : List Int) (hl : A.length ≤ 100) (he : A.length = B.length) (hA : ∀ z ∈ A, inDepth z (deep m 0 d)) (hB : ∀ z ∈ B, inDepth z (deep m 1 d))
    (hj : Ev (fun k => stereo_Join.f k m A B) (X, Y, 0)) (hX : X.length ≤ 100) (hY : Y.length ≤ 100) (r : Nat) : ∀ (i : Nat), i + r = A.length → Ev (fun k => serinettelaw21_StereoBack.l1 k true d m X Y A B i) true := by
  have hd0 : 1 ≤ deep m 0 d ∧ deep m 0 d ≤ 62 := by unfold deep; split <;> omega
  have hd1 : 1 ≤ deep m 1 d ∧ deep m 1 d ≤ 62 := by unfold deep; split <;> omega
  induction r with
  | zero =>
    intro i hi
    refine Ev.step (fun k => serinettelaw21_StereoBack.l1.eq_2 ..) ?_
    refine evF (by omega) ?_
    refine evB hj ?_
    dsimp only
    refine evT rfl ?_
    refine evT rfl ?_
    refine evB (ints_same X X (by omega) rfl) ?_
    refine evT rfl ?_
    refine evB (ints_same Y Y (by omega) rfl) ?_
    exact Ev.now _
  | succ r ih =>
    intro i hi
    have ha : i < A.length := by omega
    have hb : i < B.length := by omega
    refine Ev.step (fun k => serinettelaw21_StereoBack.l1.eq_2 ..) ?_
    refine evT (by omega) ?_
    refine evT (by omega) ?_
    refine evC (deep_some m 0 d hm (by omega) hd) ?_
    rw [rd_nat A i ha, rd_nat B i hb]
    refine evC (in_some A[i] _ hd0) ?_
    refine evT (decide_eq_true (hA _ (List.getElem_mem ha))) ?_
    refine evT (by omega) ?_
    refine evC (deep_some m 1 d hm (by omega) hd) ?_
    refine evC (in_some B[i] _ hd1) ?_
    refine evT (decide_eq_true (hB _ (List.getElem_mem hb))) ?_
    rw [wr _ (by omega)]
    exact ih (i + 1) (by omega)
theorem tmod_small (v p : Int) (hp : 1 ≤ p) : -p < Int.tmod v p ∧ Int.tmod v p < p := by
  have h1 := Int.tmod_lt_of_pos v (show 0 < p by omega)
  have h2 := Int.lt_tmod_of_pos v (show 0 < p by omega)
  omega
theorem back_rest (m d : Int) (hm : mode4 m) (hd : 4 ≤ d ∧ d ≤ 32) (l r : List Int) (hl : l.length ≤ 100) (he : l.length = r.length) :
    Ev (fun k => serinettelaw21_StereoBack.l0 k l r true d m (l.map fun v => Int.tmod v (2 ^ (d - 1).toNat)) (r.map fun v => Int.tmod v (2 ^ (d - 1).toNat)) l.length) true := by
  have hp := pow_range (d - 1).toNat (by omega)
  have hp32 : (2 : Int) ^ (d - 1).toNat ≤ 2147483648 := by
    have h2 : 2 ^ (d - 1).toNat ≤ 2 ^ 31 := Nat.pow_le_pow_right (by decide) (by omega)
    have e : ((2 ^ (d - 1).toNat : Nat) : Int) = 2 ^ (d - 1).toNat := Int.natCast_pow 2 _
    rw [← e]
    have h31 : (2 : Nat) ^ 31 = 2147483648 := rfl
    omega
  have small : ∀ l : List Int, ∀ z ∈ l.map (fun v => Int.tmod v (2 ^ (d - 1).toNat)), -(2 ^ (d - 1).toNat) < z ∧ z < 2 ^ (d - 1).toNat := by
    intro l z hz
    rw [List.mem_map] at hz
    obtain ⟨v, _, rfl⟩ := hz
    exact tmod_small v _ hp.1
  generalize hX : (l.map fun v => Int.tmod v (2 ^ (d - 1).toNat)) = X
  generalize hY : (r.map fun v => Int.tmod v (2 ^ (d - 1).toNat)) = Y
  have sX := small l; rw [hX] at sX
  have sY := small r; rw [hY] at sY
  have lX : X.length = l.length := by rw [← hX, List.length_map]
  have lY : Y.length = l.length := by rw [← hY, List.length_map]; exact he.symm
  have nX : ∀ z ∈ X, near z := fun z hz => by have := sX z hz; unfold near; omega
  have nY : ∀ z ∈ Y, near z := fun z hz => by have := sY z hz; unfold near; omega
  have l1 : (List.zipWith (fun x y => (spl m x y).1) X Y).length = l.length := by rw [List.length_zipWith]; omega
  have l2 : (List.zipWith (fun x y => (spl m x y).2) X Y).length = l.length := by rw [List.length_zipWith]; omega
  have dA := zip_all (fun z => inDepth z (deep m 0 d)) (fun z => -(2 ^ (d - 1).toNat) < z ∧ z < 2 ^ (d - 1).toNat) (fun x y => (spl m x y).1) (fun x y hx hy => (part_depth m d hm hd x y hx hy).1) X Y sX sY
  have dB := zip_all (fun z => inDepth z (deep m 1 d)) (fun z => -(2 ^ (d - 1).toNat) < z ∧ z < 2 ^ (d - 1).toNat) (fun x y => (spl m x y).2) (fun x y hx hy => (part_depth m d hm hd x y hx hy).2) X Y sX sY
  have toNear : ∀ z c, c = 0 ∨ c = 1 → inDepth z (deep m c d) → near z := by
    intro z c hc hz
    have : (2 : Int) ^ (deep m c d - 1).toNat ≤ 4294967296 := by
      have h2 : 2 ^ (deep m c d - 1).toNat ≤ 2 ^ 32 := Nat.pow_le_pow_right (by decide) (by unfold deep; split <;> omega)
      have e : ((2 ^ (deep m c d - 1).toNat : Nat) : Int) = 2 ^ (deep m c d - 1).toNat := Int.natCast_pow 2 _
      rw [← e]
      have h32 : (2 : Nat) ^ 32 = 4294967296 := rfl
      omega
    unfold inDepth at hz
    unfold near
    omega
  have tb := told_back (fun _ => True) (spl m) (jnn m) (fun x y _ _ => back_pair m hm x y) X Y (by omega) (fun _ _ => trivial) (fun _ _ => trivial)
  have hj := join_ev m hm _ _ (fun z hz => toNear z 0 (by omega) (dA z hz)) (fun z hz => toNear z 1 (by omega) (dB z hz)) (by omega) (by omega)
  rw [tb.1, tb.2] at hj
  refine Ev.step (fun k => serinettelaw21_StereoBack.l0.eq_2 ..) ?_
  refine evF (by omega) ?_
  refine evB (split_ev m hm X Y nX nY (by omega) (by omega)) ?_
  dsimp only
  refine evT rfl ?_
  refine evT (by omega) ?_
  rw [show (((List.zipWith (fun x y => (spl m x y).2) X Y).length : Int) != (X.length : Int)) = false by rw [l2, lX]; simp]
  refine Ev.step (fun k => serinettelaw21_StereoBack.j2.eq_2 ..) ?_
  refine evF (by decide) ?_
  exact back_check m d hm hd X Y _ _ (by omega) (by omega) dA dB hj (by omega) (by omega) l.length 0 (by omega)
theorem back_loop (m d : Int) (hm : mode4 m) (hd : 4 ≤ d ∧ d ≤ 32) (l r : List Int) (hl : l.length ≤ 100) (he : l.length = r.length) (e : Nat) : ∀ (i : Nat), i + e = l.length →
    Ev (fun k => serinettelaw21_StereoBack.l0 k l r true d m ((l.take i).map fun v => Int.tmod v (2 ^ (d - 1).toNat)) ((r.take i).map fun v => Int.tmod v (2 ^ (d - 1).toNat)) i) true := by
  have hp := pow_range (d - 1).toNat (by omega)
  induction e with
  | zero =>
    intro i hi
    rw [List.take_of_length_le (by omega), List.take_of_length_le (by omega), show i = l.length by omega]
    exact back_rest m d hm hd l r hl he
  | succ e ih =>
    intro i hi
    have ha : i < l.length := by omega
    have hb : i < r.length := by omega
    refine Ev.step (fun k => serinettelaw21_StereoBack.l0.eq_2 ..) ?_
    refine evT (by omega) ?_
    refine evT (by omega) ?_
    rw [wr (d - 1) (by omega), shl_one (d - 1) (by omega)]
    refine evT (by omega) ?_
    refine evF (by omega) ?_
    refine evT (by rw [List.length_map, List.length_take]; omega) ?_
    refine evT (by omega) ?_
    refine evT (by rw [List.length_map, List.length_take]; omega) ?_
    rw [rd_nat l i ha, rd_nat r i hb, wr _ (by omega)]
    have h := ih (i + 1) (by omega)
    rw [List.take_succ_eq_append_getElem ha, List.take_succ_eq_append_getElem hb, List.map_append, List.map_append] at h
    exact h
theorem StereoBack : serinettelaw21_StereoBack.Pure := by
  intro l r depth mode _ _ _ _ _ _ w2 w3
  have hb2 := wf_u8 w2
  have hb3 := wf_u8 w3
  refine Ev.rounds ?_
  unfold serinettelaw21_StereoBack.f
  refine evB awake21 ?_
  have early : Ev (fun k => serinettelaw21_StereoBack.j0 k l r depth mode true true) true := by
    refine Ev.step (fun k => serinettelaw21_StereoBack.j0.eq_2 ..) ?_
    exact evT rfl (Ev.now _)
  by_cases c : (l.length : Int) > 100
  · exact evT c early
  refine evF c ?_
  by_cases e : l.length = r.length
  · rw [show ((r.length : Int) != (l.length : Int)) = false by simp [e]]
    refine Ev.step (fun k => serinettelaw21_StereoBack.j0.eq_2 ..) ?_
    refine evF (by decide) ?_
    refine evC rfl ?_
    rw [tmod_pos _ _ hb2.1, tmod_pos _ _ hb3.1, wr (depth % 29) (by omega), wr _ (by omega)]
    refine evT (by omega) ?_
    refine evT (by simp; omega) ?_
    have h4 : mode % 4 = 0 ∨ mode % 4 = 1 ∨ mode % 4 = 2 ∨ mode % 4 = 3 := by omega
    have hm : mode4 (rd [1, 8, 9, 10] (mode % 4)) := by rcases h4 with h | h | h | h <;> rw [h] <;> decide
    have := back_loop _ (4 + depth % 29) hm (by omega) l r (by omega) e l.length 0 (by omega)
    exact this
  · rw [show ((r.length : Int) != (l.length : Int)) = true by simp; omega]
    exact early
end Go.Proofs.Ytgdgncdnhpflcaa.Pure
