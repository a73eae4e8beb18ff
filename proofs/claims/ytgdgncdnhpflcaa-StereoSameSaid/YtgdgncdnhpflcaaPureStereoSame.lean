/- The statement StereoSame: two channels that are alike differ by nothing, and the middle is either one; where one is silent the difference is the other one, or turned about. For up to a hundred samples from -2^39 to 2^39. -/
import Derived.Test.YtgdgncdnhpflcaaPStereoSamex2
import Derived.Test.YtgdgncdnhpflcaaLEv
import Derived.Test.YtgdgncdnhpflcaaLMask
import Derived.Test.YtgdgncdnhpflcaaLPairs
import Derived.Test.YtgdgncdnhpflcaaFStereoSameInts
import Derived.Test.YtgdgncdnhpflcaaFStereoSameBoth
namespace Go.Proofs.Ytgdgncdnhpflcaa.Pure
open Go.RowKit Go.Proofs.YtgdgncdnhpflcaaW.PrintWords Go.Proofs.YtgdgncdnhpflcaaW.PrintLast Go.Proofs.Ytgdgncdnhpflcaa.PStereoSame Go.Proofs.Ytgdgncdnhpflcaa.H Go.Proofs.Ytgdgncdnhpflcaa.L Go.Proofs.Ytgdgncdnhpflcaa.FStereoSame
set_option linter.unusedVariables false
set_option linter.unusedSimpArgs false
theorem awake21 : Ev (fun k => serinettelaw21_awake.f k) true := Ev.of (k := 10) serinettelaw21_awake.mono (by decide +kernel)
theorem zip_self (f : Int → Int → Int) (g : Int → Int) (h : ∀ a, f a a = g a) : ∀ x : List Int, List.zipWith f x x = x.map g
  | [] => rfl
  | a :: x => by rw [List.zipWith_cons_cons, List.map_cons, h, zip_self f g h x]
theorem zip_none (f : Int → Int → Int) (g : Int → Int) (h : ∀ a, f a 0 = g a) : ∀ x : List Int, List.zipWith f x (List.replicate x.length 0) = x.map g
  | [] => rfl
  | a :: x => by rw [List.length_cons, List.replicate_succ, List.zipWith_cons_cons, List.map_cons, h, zip_none f g h x]
theorem none_zip (f : Int → Int → Int) (g : Int → Int) (h : ∀ a, f 0 a = g a) : ∀ x : List Int, List.zipWith f (List.replicate x.length 0) x = x.map g
  | [] => rfl
  | a :: x => by rw [List.length_cons, List.replicate_succ, List.zipWith_cons_cons, List.map_cons, h, none_zip f g h x]
theorem map_zero : ∀ x : List Int, x.map (fun _ => (0 : Int)) = List.replicate x.length 0
  | [] => rfl
  | a :: x => by rw [List.length_cons, List.replicate_succ, List.map_cons, map_zero x]
theorem map_same (x : List Int) : x.map (fun a => a) = x := List.map_id x
theorem near_none (x : List Int) : ∀ z ∈ List.replicate x.length (0 : Int), near z := by
  intro z hz
  rw [List.mem_replicate] at hz
  rw [hz.2]
  unfold near
  omega
theorem same_rest (x : List Int) (hl : x.length ≤ 100) (hx : ∀ z ∈ x, near z) :
    Ev (fun k => serinettelaw21_StereoSame.l0 k x true (x.map fun a => -a) x.length) true := by
  refine Ev.step (fun k => serinettelaw21_StereoSame.l0.eq_2 ..) ?_
  refine evF (by omega) ?_
  refine evT (by omega) ?_
  refine evT (by omega) ?_
  refine evC rfl ?_
  rw [Int.toNat_natCast]
  have lr : (List.replicate x.length (0 : Int)).length = x.length := List.length_replicate
  refine evB (split_ev 8 (by omega) x x hx hx (by omega) rfl) ?_
  refine evB (split_ev 10 (by omega) x x hx hx (by omega) rfl) ?_
  refine evB (split_ev 8 (by omega) x (List.replicate x.length 0) hx (near_none x) (by omega) lr.symm) ?_
  refine evB (split_ev 9 (by omega) (List.replicate x.length 0) x (near_none x) hx (by omega) lr) ?_
  dsimp only
  refine evT rfl ?_
  refine evT rfl ?_
  refine evT rfl ?_
  refine evT rfl ?_
  refine evT rfl ?_
  have e1 : List.zipWith (fun a b => (spl 8 a b).1) x x = x := (zip_self _ (fun a => a) (fun a => rfl) x).trans (map_same x)
  have e2 : List.zipWith (fun a b => (spl 8 a b).2) x x = List.replicate x.length 0 := (zip_self _ (fun _ => 0) (fun a => (by show a - a = 0; omega)) x).trans (map_zero x)
  have e3 : List.zipWith (fun a b => (spl 10 a b).1) x x = x := (zip_self _ (fun a => a) (fun a => (by show (a + a) / 2 = a; omega)) x).trans (map_same x)
  have e4 : List.zipWith (fun a b => (spl 10 a b).2) x x = List.replicate x.length 0 := (zip_self _ (fun _ => 0) (fun a => (by show a - a = 0; omega)) x).trans (map_zero x)
  have e5 : List.zipWith (fun a b => (spl 8 a b).2) x (List.replicate x.length 0) = x := (zip_none _ (fun a => a) (fun a => (by show a - 0 = a; omega)) x).trans (map_same x)
  have e6 : List.zipWith (fun a b => (spl 9 a b).1) (List.replicate x.length 0) x = x.map fun a => -a := none_zip _ (fun a => -a) (fun a => (by show 0 - a = -a; omega)) x
  rw [e1, e2, e3, e4, e5, e6]
  refine evB (ints_same x x (by omega) rfl) ?_
  refine evT rfl ?_
  refine evB (ints_same _ _ (by omega) rfl) ?_
  refine evT rfl ?_
  refine evB (ints_same x x (by omega) rfl) ?_
  refine evT rfl ?_
  refine evB (ints_same _ _ (by omega) rfl) ?_
  refine evT rfl ?_
  refine evB (ints_same x x (by omega) rfl) ?_
  refine evT rfl ?_
  refine evB (ints_same _ _ (by rw [List.length_map]; omega) rfl) ?_
  exact Ev.now _
theorem same_loop (x : List Int) (hl : x.length ≤ 100) (d : Nat) : ∀ (i : Nat), i + d = x.length → (∀ z ∈ x.take i, near z) →
    Ev (fun k => serinettelaw21_StereoSame.l0 k x true ((x.take i).map fun a => -a) i) true := by
  induction d with
  | zero =>
    intro i hi hx
    rw [List.take_of_length_le (by omega)] at hx ⊢
    rw [show i = x.length by omega]
    exact same_rest x hl hx
  | succ d ih =>
    intro i hi hx
    have hlt : i < x.length := by omega
    refine Ev.step (fun k => serinettelaw21_StereoSame.l0.eq_2 ..) ?_
    refine evT (by omega) ?_
    refine evT (by omega) ?_
    rw [rd_nat x i hlt]
    by_cases c1 : x[i] > 549755813888
    · exact evT c1 (Ev.now _)
    refine evF c1 ?_
    by_cases c2 : x[i] < -549755813888
    · exact evT c2 (Ev.now _)
    refine evF c2 ?_
    refine evT (by rw [List.length_map, List.length_take]; omega) ?_
    rw [wr (-x[i]) (by omega), wr _ (by omega)]
    have h := ih (i + 1) (by omega) (by
      intro z hz
      rw [List.take_succ_eq_append_getElem hlt, List.mem_append, List.mem_singleton] at hz
      rcases hz with hz | rfl
      · exact hx z hz
      · unfold near; omega)
    rw [List.take_succ_eq_append_getElem hlt, List.map_append] at h
    exact h
theorem StereoSame : serinettelaw21_StereoSame.Pure := by
  intro x _ _ _
  refine Ev.rounds ?_
  unfold serinettelaw21_StereoSame.f
  refine evB awake21 ?_
  by_cases c : (x.length : Int) > 100
  · exact evT c (Ev.now _)
  refine evF c ?_
  exact same_loop x (by omega) x.length 0 (by omega) (by simp)
end Go.Proofs.Ytgdgncdnhpflcaa.Pure
