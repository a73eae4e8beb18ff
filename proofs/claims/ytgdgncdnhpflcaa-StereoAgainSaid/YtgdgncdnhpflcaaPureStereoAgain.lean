/- The statement StereoAgain: what was joined is split again, by each mode. For up to a hundred numbers from -2^39 to 2^39 each, and a mode. -/
import Derived.Test.YtgdgncdnhpflcaaPStereoAgainx2
import Derived.Test.YtgdgncdnhpflcaaLEv
import Derived.Test.YtgdgncdnhpflcaaLMask
import Derived.Test.YtgdgncdnhpflcaaLPairs
import Derived.Test.YtgdgncdnhpflcaaFStereoAgainInts
import Derived.Test.YtgdgncdnhpflcaaFStereoAgainBoth
namespace Go.Proofs.Ytgdgncdnhpflcaa.Pure
open Go.RowKit Go.Proofs.YtgdgncdnhpflcaaW.PrintWords Go.Proofs.YtgdgncdnhpflcaaW.PrintLast Go.Proofs.Ytgdgncdnhpflcaa.PStereoAgain Go.Proofs.Ytgdgncdnhpflcaa.H Go.Proofs.Ytgdgncdnhpflcaa.L Go.Proofs.Ytgdgncdnhpflcaa.FStereoAgain
set_option linter.unusedVariables false
set_option linter.unusedSimpArgs false
theorem awake21 : Ev (fun k => serinettelaw21_awake.f k) true := Ev.of (k := 10) serinettelaw21_awake.mono (by decide +kernel)
theorem again_pair (m : Int) (hm : m = 1 ∨ m = 8 ∨ m = 9 ∨ m = 10) (x y : Int) : spl m (jnn m x y).1 (jnn m x y).2 = (x, y) := by
  rcases hm with rfl | rfl | rfl | rfl
  · rfl
  · show (x, x - (x - y)) = (x, y)
    rw [Prod.mk.injEq]; omega
  · show (x + y - y, y) = (x, y)
    rw [Prod.mk.injEq]; omega
  · show (((2 * x + y % 2 + y) / 2 + ((2 * x + y % 2 + y) / 2 - y)) / 2, (2 * x + y % 2 + y) / 2 - ((2 * x + y % 2 + y) / 2 - y)) = (x, y)
    rw [Prod.mk.injEq]; omega
def close (x : Int) : Prop := -549755813888 ≤ x ∧ x ≤ 549755813888
theorem join_near (m : Int) (hm : m = 1 ∨ m = 8 ∨ m = 9 ∨ m = 10) (x y : Int) (hx : close x) (hy : close y) : near (jnn m x y).1 ∧ near (jnn m x y).2 := by
  unfold close at hx hy
  unfold near
  rcases hm with rfl | rfl | rfl | rfl
  · show (_ ≤ x ∧ x ≤ _) ∧ (_ ≤ y ∧ y ≤ _); omega
  · show (_ ≤ x ∧ x ≤ _) ∧ (_ ≤ x - y ∧ x - y ≤ _); omega
  · show (_ ≤ x + y ∧ x + y ≤ _) ∧ (_ ≤ y ∧ y ≤ _); omega
  · show (_ ≤ (2 * x + y % 2 + y) / 2 ∧ (2 * x + y % 2 + y) / 2 ≤ _) ∧ (_ ≤ (2 * x + y % 2 + y) / 2 - y ∧ (2 * x + y % 2 + y) / 2 - y ≤ _); omega
theorem again_rest (a b : List Int) (mm m : Int) (hmm : m = rd [1, 8, 9, 10] mm) (h0 : 0 ≤ mm ∧ mm < 4) (hm : m = 1 ∨ m = 8 ∨ m = 9 ∨ m = 10) (hl : a.length ≤ 100) (he : a.length = b.length) (ha : ∀ x ∈ a, close x) (hb : ∀ x ∈ b, close x) (mode : Int) (hmode : Int.tmod mode 4 = mm) :
    Ev (fun k => (some (([1, 8, 9, 10] : List Int) : List Int)).bind fun y151 => (if 0 ≤ (Int.tmod mode 4) then (if (Int.tmod mode 4) < (y151.length : Int) then ((stereo_Join.f k (rd y151 (Int.tmod mode 4)) a b).bind fun bt155 => ((stereo_Split.f k (rd y151 (Int.tmod mode 4)) bt155.1 bt155.2.1).bind fun bt162 => (if true = true then (if bt155.2.2 = 0 then (if bt162.2.2 = 0 then ((serinetteref01_Ints.f k bt162.1 a).bind fun t169 => (if t169 = true then ((serinetteref01_Ints.f k bt162.2.1 b).bind fun t170 => (some t170)) else (some false))) else (some false)) else (some false)) else (some false)))) else (none)) else (none))) true := by
  have nearOf : ∀ x, close x → near x := fun x h => by unfold close at h; unfold near; omega
  have l1 : (List.zipWith (fun x y => (jnn m x y).1) a b).length = a.length := by rw [List.length_zipWith]; omega
  have l2 : (List.zipWith (fun x y => (jnn m x y).2) a b).length = a.length := by rw [List.length_zipWith]; omega
  have tb := told_back (fun _ => True) (jnn m) (spl m) (fun x y _ _ => again_pair m hm x y) a b he (fun _ _ => trivial) (fun _ _ => trivial)
  refine evC rfl ?_
  rw [hmode, ← hmm]
  refine evT (by omega) ?_
  refine evT (by simp; omega) ?_
  refine evB (join_ev m hm a b (fun x hx => nearOf x (ha x hx)) (fun x hx => nearOf x (hb x hx)) (by omega) he) ?_
  dsimp only
  refine evB (split_ev m hm _ _ (zip_all near close _ (fun x y hx hy => (join_near m hm x y hx hy).1) a b ha hb) (zip_all near close _ (fun x y hx hy => (join_near m hm x y hx hy).2) a b ha hb) (by omega) (by omega)) ?_
  dsimp only
  refine evT rfl ?_
  refine evT rfl ?_
  refine evT rfl ?_
  rw [tb.1, tb.2]
  refine evB (ints_same a a (by omega) rfl) ?_
  refine evT rfl ?_
  refine evB (ints_same b b (by omega) rfl) ?_
  exact Ev.now _
theorem again_loop (a b : List Int) (mode : Int) (hmode : 0 ≤ mode ∧ mode ≤ 255) (hl : a.length ≤ 100) (he : a.length = b.length) (d : Nat) : ∀ (i : Nat), i + d = a.length → (∀ x ∈ a.take i, close x) → (∀ x ∈ b.take i, close x) →
    Ev (fun k => serinettelaw21_StereoAgain.l0 k a b mode true i) true := by
  induction d with
  | zero =>
    intro i hi ha hb
    rw [List.take_of_length_le (by omega)] at ha hb
    refine Ev.step (fun k => serinettelaw21_StereoAgain.l0.eq_2 ..) ?_
    refine evF (by omega) ?_
    have ht : Int.tmod mode 4 = mode % 4 := tmod_pos _ _ hmode.1
    have h4 : mode % 4 = 0 ∨ mode % 4 = 1 ∨ mode % 4 = 2 ∨ mode % 4 = 3 := by omega
    refine again_rest a b (mode % 4) (rd [1, 8, 9, 10] (mode % 4)) rfl (by omega) ?_ hl he ha hb mode ht
    rcases h4 with h | h | h | h <;> rw [h] <;> decide
  | succ d ih =>
    intro i hi ha hb
    have hia : i < a.length := by omega
    have hib : i < b.length := by omega
    refine Ev.step (fun k => serinettelaw21_StereoAgain.l0.eq_2 ..) ?_
    refine evT (by omega) ?_
    refine evT (by omega) ?_
    refine evT (by omega) ?_
    rw [rd_nat a i hia, rd_nat b i hib, mx_eq, mn_eq]
    by_cases c1 : max a[i] b[i] > 549755813888
    · exact evT c1 (Ev.now _)
    refine evF c1 ?_
    by_cases c2 : min a[i] b[i] < -549755813888
    · exact evT c2 (Ev.now _)
    refine evF c2 ?_
    rw [wr _ (by omega)]
    refine ih (i + 1) (by omega) ?_ ?_
    · intro x hx
      rw [List.take_succ_eq_append_getElem hia, List.mem_append, List.mem_singleton] at hx
      rcases hx with hx | rfl
      · exact ha x hx
      · unfold close; omega
    · intro x hx
      rw [List.take_succ_eq_append_getElem hib, List.mem_append, List.mem_singleton] at hx
      rcases hx with hx | rfl
      · exact hb x hx
      · unfold close; omega
theorem StereoAgain : serinettelaw21_StereoAgain.Pure := by
  intro a b mode _ _ _ _ _ _ w2
  have hb := wf_u8 w2
  refine Ev.rounds ?_
  unfold serinettelaw21_StereoAgain.f
  refine evB awake21 ?_
  have early : Ev (fun k => serinettelaw21_StereoAgain.j0 k a b mode true true) true := by
    refine Ev.step (fun k => serinettelaw21_StereoAgain.j0.eq_2 ..) ?_
    exact evT rfl (Ev.now _)
  by_cases c : (a.length : Int) > 100
  · exact evT c early
  refine evF c ?_
  by_cases e : a.length = b.length
  · rw [show ((b.length : Int) != (a.length : Int)) = false by simp [e]]
    refine Ev.step (fun k => serinettelaw21_StereoAgain.j0.eq_2 ..) ?_
    refine evF (by decide) ?_
    exact again_loop a b mode hb (by omega) e a.length 0 (by omega) (by simp) (by simp)
  · rw [show ((b.length : Int) != (a.length : Int)) = true by simp; omega]
    exact early
end Go.Proofs.Ytgdgncdnhpflcaa.Pure
