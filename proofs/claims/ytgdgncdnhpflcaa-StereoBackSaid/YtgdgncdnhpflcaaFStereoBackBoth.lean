import Derived.Test.YtgdgncdnhpflcaaPStereoBackx2
import Derived.Test.YtgdgncdnhpflcaaLEv
import Derived.Test.YtgdgncdnhpflcaaLMask
import Derived.Test.YtgdgncdnhpflcaaLPairs
namespace Go.Proofs.Ytgdgncdnhpflcaa.FStereoBack
open Go.RowKit Go.Proofs.YtgdgncdnhpflcaaW.PrintWords Go.Proofs.YtgdgncdnhpflcaaW.PrintLast Go.Proofs.Ytgdgncdnhpflcaa.PStereoBack Go.Proofs.Ytgdgncdnhpflcaa.H Go.Proofs.Ytgdgncdnhpflcaa.L
set_option linter.unusedVariables false
set_option linter.unusedSimpArgs false
theorem both_loop (G : Int → Int → Option (Int × Int)) (F : Int → Int → Int × Int) (a b : List Int) (hG : ∀ x ∈ a, ∀ y ∈ b, G x y = some (F x y)) (hl : a.length ≤ 1000000) (he : a.length = b.length) (d : Nat) : ∀ (i : Nat), i + d = a.length →
    Ev (fun k => stereo_both.l0 G k a b ((List.zipWith (fun x y => (F x y).1) a b).take i ++ List.replicate (a.length - i) 0) ((List.zipWith (fun x y => (F x y).2) a b).take i ++ List.replicate (a.length - i) 0) (a.length : Int) i)
      (List.zipWith (fun x y => (F x y).1) a b, List.zipWith (fun x y => (F x y).2) a b, 0) := by
  have l1 : (List.zipWith (fun x y => (F x y).1) a b).length = a.length := by rw [List.length_zipWith]; omega
  have l2 : (List.zipWith (fun x y => (F x y).2) a b).length = a.length := by rw [List.length_zipWith]; omega
  induction d with
  | zero =>
    intro i hi
    refine Ev.step (fun k => stereo_both.l0.eq_2 ..) ?_
    refine evF (by omega) ?_
    refine evR (Ev.now _) ?_
    rw [show a.length - i = 0 by omega, List.take_of_length_le (by omega), List.take_of_length_le (by omega)]
    simp
  | succ d ih =>
    intro i hi
    have ha : i < a.length := by omega
    have hb : i < b.length := by omega
    refine Ev.step (fun k => stereo_both.l0.eq_2 ..) ?_
    refine evT (by omega) ?_
    refine evT (by omega) ?_
    refine evT (by omega) ?_
    refine evT (by omega) ?_
    rw [rd_nat a i ha, rd_nat b i hb]
    refine evC (hG _ (List.getElem_mem ha) _ (List.getElem_mem hb)) ?_
    refine evT (by rw [List.length_append, List.length_take, List.length_replicate]; omega) ?_
    refine evT (by rw [List.length_append, List.length_take, List.length_replicate]; omega) ?_
    rw [wr _ (by omega), Int.toNat_natCast]
    have s1 := set_fill' (0 : Int) (List.zipWith (fun x y => (F x y).1) a b) a.length i l1 ha (F a[i] b[i]).1 (by rw [List.getElem?_eq_getElem (by omega), List.getElem_zipWith])
    have s2 := set_fill' (0 : Int) (List.zipWith (fun x y => (F x y).2) a b) a.length i l2 ha (F a[i] b[i]).2 (by rw [List.getElem?_eq_getElem (by omega), List.getElem_zipWith])
    rw [s1, s2]
    exact ih (i + 1) (by omega)
theorem both_ev (G : Int → Int → Option (Int × Int)) (F : Int → Int → Int × Int) (a b : List Int) (hG : ∀ x ∈ a, ∀ y ∈ b, G x y = some (F x y)) (hl : a.length ≤ 1000000) (he : a.length = b.length) :
    Ev (fun k => stereo_both.f G k a b) (List.zipWith (fun x y => (F x y).1) a b, List.zipWith (fun x y => (F x y).2) a b, 0) := by
  unfold stereo_both.f
  refine evT (by omega) ?_
  refine evT (by omega) ?_
  refine evT (by omega) ?_
  exact both_loop G F a b hG hl he a.length 0 (by omega)
/-- What a mode tells of two samples. -/
def spl (m : Int) (x y : Int) : Int × Int := if m = 8 then (x, x - y) else if m = 9 then (x - y, y) else if m = 10 then ((x + y) / 2, x - y) else (x, y)
/-- The two samples of which it tells. -/
def jnn (m : Int) (x y : Int) : Int × Int := if m = 8 then (x, x - y) else if m = 9 then (x + y, y) else if m = 10 then ((2 * x + y % 2 + y) / 2, (2 * x + y % 2 + y) / 2 - y) else (x, y)
def near (x : Int) : Prop := -1099511627776 ≤ x ∧ x ≤ 1099511627776
theorem split_ev (m : Int) (hm : m = 1 ∨ m = 8 ∨ m = 9 ∨ m = 10) (a b : List Int) (ha : ∀ x ∈ a, near x) (hb : ∀ x ∈ b, near x) (hl : a.length ≤ 1000000) (he : a.length = b.length) :
    Ev (fun k => stereo_Split.f k m a b) (List.zipWith (fun x y => (spl m x y).1) a b, List.zipWith (fun x y => (spl m x y).2) a b, 0) := by
  unfold stereo_Split.f
  rcases hm with rfl | rfl | rfl | rfl
  · refine evT rfl (both_ev _ (spl 1) a b (fun x hx y hy => ?_) hl he)
    rfl
  · refine evF (by decide) (evT rfl (both_ev _ (spl 8) a b (fun x hx y hy => ?_) hl he))
    have h1 := ha x hx; have h2 := hb y hy; unfold near at h1 h2
    unfold stereo_pair_less.f
    rw [wr _ (by omega)]; rfl
  · refine evF (by decide) (evF (by decide) (evT rfl (both_ev _ (spl 9) a b (fun x hx y hy => ?_) hl he)))
    have h1 := ha x hx; have h2 := hb y hy; unfold near at h1 h2
    unfold stereo_pair_more.f
    rw [wr _ (by omega)]; rfl
  · refine evF (by decide) (evF (by decide) (evF (by decide) (evT rfl (both_ev _ (spl 10) a b (fun x hx y hy => ?_) hl he))))
    have h1 := ha x hx; have h2 := hb y hy; unfold near at h1 h2
    unfold stereo_pair_between.f
    rw [wr _ (by omega), wr _ (by omega)]; rfl
theorem join_ev (m : Int) (hm : m = 1 ∨ m = 8 ∨ m = 9 ∨ m = 10) (a b : List Int) (ha : ∀ x ∈ a, near x) (hb : ∀ x ∈ b, near x) (hl : a.length ≤ 1000000) (he : a.length = b.length) :
    Ev (fun k => stereo_Join.f k m a b) (List.zipWith (fun x y => (jnn m x y).1) a b, List.zipWith (fun x y => (jnn m x y).2) a b, 0) := by
  unfold stereo_Join.f
  rcases hm with rfl | rfl | rfl | rfl
  · refine evT rfl (both_ev _ (jnn 1) a b (fun x hx y hy => ?_) hl he)
    rfl
  · refine evF (by decide) (evT rfl (both_ev _ (jnn 8) a b (fun x hx y hy => ?_) hl he))
    have h1 := ha x hx; have h2 := hb y hy; unfold near at h1 h2
    unfold stereo_pair_less.f
    rw [wr _ (by omega)]; rfl
  · refine evF (by decide) (evF (by decide) (evT rfl (both_ev _ (jnn 9) a b (fun x hx y hy => ?_) hl he)))
    have h1 := ha x hx; have h2 := hb y hy; unfold near at h1 h2
    unfold stereo_pair_add.f
    rw [wr _ (by omega)]; rfl
  · refine evF (by decide) (evF (by decide) (evF (by decide) (evT rfl (both_ev _ (jnn 10) a b (fun x hx y hy => ?_) hl he))))
    have h1 := ha x hx; have h2 := hb y hy; unfold near at h1 h2
    unfold stereo_pair_apart.f
    rw [i64_and1, wr (2 * x) (by omega), wr (2 * x + y % 2) (by omega), wr (2 * x + y % 2 + y) (by omega), wr _ (by omega)]; rfl
end Go.Proofs.Ytgdgncdnhpflcaa.FStereoBack
