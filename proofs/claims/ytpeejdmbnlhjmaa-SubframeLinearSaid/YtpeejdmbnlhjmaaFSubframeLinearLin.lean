import Derived.Test.YtpeejdmbnlhjmaaPSubframeLinearx7
import Derived.Test.YtpeejdmbnlhjmaaLEv
namespace Go.Proofs.Ytpeejdmbnlhjmaa.FSubframeLinear
open Go.RowKit Go.Proofs.YtpeejdmbnlhjmaaW.PrintWords Go.Proofs.YtpeejdmbnlhjmaaW.PrintLast Go.Proofs.Ytpeejdmbnlhjmaa.PSubframeLinear Go.Proofs.Ytpeejdmbnlhjmaa.L
set_option linter.unusedVariables false
set_option linter.unusedSimpArgs false
/-- All of a row's numbers are small. -/
def bnd (B : Int) (l : List Int) : Prop := ∀ i : Nat, i < l.length → -B ≤ rd l (i : Int) ∧ rd l (i : Int) ≤ B
theorem bnd_mem {B : Int} {l : List Int} (h : bnd B l) : ∀ x ∈ l, -B ≤ x ∧ x ≤ B := by
  intro x hx
  obtain ⟨i, hi, rfl⟩ := List.mem_iff_getElem.mp hx
  have := h i hi
  rwa [rd_nat l i hi] at this
theorem mem_bnd {B : Int} {l : List Int} (h : ∀ x ∈ l, -B ≤ x ∧ x ≤ B) : bnd B l := fun i hi => by
  rw [rd_nat l i hi]; exact h _ (List.getElem_mem hi)
theorem rd_dif (l : List Int) (B : Int) (hB : 0 ≤ B ∧ B ≤ 4611686018427387903) (h : bnd B l) (k : Nat) (hk : k + 1 < l.length) : rd (H.diffs l) (k : Int) = rd l ((k : Int) + 1) - rd l (k : Int) := by
  have e := H.diffs_at l k hk
  have a := h k (by omega)
  have b := h (k + 1) hk
  have hlen : k < (H.diffs l).length := by rw [H.diffs_len]; omega
  rw [rd_nat _ k hlen]
  rw [List.getElem?_eq_getElem hlen] at e
  rw [Option.some.inj e, rd_nat l k (by omega), show (k : Int) + 1 = ((k + 1 : Nat) : Int) by omega, rd_nat l (k + 1) hk]
  rw [rd_nat l k (by omega)] at a
  rw [rd_nat l (k + 1) hk] at b
  exact wr _ (by omega)
theorem bnd_dif (l : List Int) (B : Int) (hB : 0 ≤ B ∧ B ≤ 4611686018427387903) (h : bnd B l) : bnd (2 * B) (H.diffs l) := by
  intro i hi
  rw [H.diffs_len] at hi
  rw [rd_dif l B hB h i (by omega)]
  have a := h i (by omega)
  have b := h (i + 1) (by omega)
  rw [show ((i + 1 : Nat) : Int) = (i : Int) + 1 by omega] at b
  omega
theorem rd_take (l : List Int) (n k : Nat) (h : k < n) : rd (l.take n) (k : Int) = rd l (k : Int) := by
  unfold rd
  rw [Int.toNat_natCast, List.getD_eq_getElem?_getD, List.getD_eq_getElem?_getD, List.getElem?_take, if_pos h]
/-- The loop of a linear predictor, where what is left is known. -/
theorem linL_eq (fs xs L : List Int) (o : Nat) (ho : o ≤ xs.length) (hL : L.length = xs.length - o) (h : ∀ j : Nat, j < L.length → H.linN fs xs 0 (o + j) = rd L (j : Int) ∧ -2147483648 < rd L (j : Int) ∧ rd L (j : Int) < 2147483648) (d : Nat) :
    ∀ j : Nat, j + d = L.length → H.linL fs xs 0 (o + j) d (L.take j) = (L, 0) := by
  induction d with
  | zero =>
    intro j hj
    obtain rfl : j = L.length := by omega
    rw [H.linL, List.take_length]
  | succ d ih =>
    intro j hj
    have hlt : j < L.length := by omega
    obtain ⟨h1, h2, h3⟩ := h j hlt
    rw [H.linL, h1, if_neg (by omega), rd_nat L j hlt, ← List.take_succ_eq_append_getElem hlt]
    exact ih (j + 1) (by omega)
theorem tell1 (ys : List Int) (a : Int) : H.tellP [a] ys 0 = wrap64 (wrap64 (a * rd ys ((ys.length : Int) - 1))) := by
  simp [H.tellP, H.sumTo, rd]
theorem tell2 (ys : List Int) (a b : Int) : H.tellP [a, b] ys 0 = wrap64 (wrap64 (wrap64 (a * rd ys ((ys.length : Int) - 1))) + wrap64 (b * rd ys ((ys.length : Int) - 1 - 1))) := by
  simp [H.tellP, H.sumTo, rd]
theorem tell3 (ys : List Int) (a b c : Int) : H.tellP [a, b, c] ys 0 = wrap64 (wrap64 (wrap64 (wrap64 (a * rd ys ((ys.length : Int) - 1))) + wrap64 (b * rd ys ((ys.length : Int) - 1 - 1))) + wrap64 (c * rd ys ((ys.length : Int) - 1 - 2))) := by
  simp [H.tellP, H.sumTo, rd]
theorem tell4 (ys : List Int) (a b c d : Int) : H.tellP [a, b, c, d] ys 0 = wrap64 (wrap64 (wrap64 (wrap64 (wrap64 (a * rd ys ((ys.length : Int) - 1))) + wrap64 (b * rd ys ((ys.length : Int) - 1 - 1))) + wrap64 (c * rd ys ((ys.length : Int) - 1 - 2))) + wrap64 (d * rd ys ((ys.length : Int) - 1 - 3))) := by
  simp [H.tellP, H.sumTo, rd]
/-- The factors of a fixed predictor. -/
def fixF : Nat → List Int
  | 1 => [1]
  | 2 => [2, -1]
  | 3 => [3, -3, 1]
  | _ => [4, -6, 4, -1]
theorem res_len : ∀ (n : Nat) (l : List Int), (H.resP n l).length = l.length - n
  | 0, l => by rw [H.resP]; omega
  | n + 1, l => by rw [H.resP, res_len n, H.diffs_len]; omega
theorem res_at (xs : List Int) (hx : bnd 8388608 xs) (o : Nat) (ho : 1 ≤ o ∧ o ≤ 4) (j : Nat) (hj : o + j < xs.length) :
    H.linN (fixF o) xs 0 (o + j) = rd (H.resP o xs) (j : Int) ∧ -2147483648 < rd (H.resP o xs) (j : Int) ∧ rd (H.resP o xs) (j : Int) < 2147483648 := by
  have b1 := bnd_dif xs _ (by decide) hx
  have b2 := bnd_dif _ _ (by decide) b1
  have b3 := bnd_dif _ _ (by decide) b2
  have b4 := bnd_dif _ _ (by decide) b3
  have l1 := H.diffs_len xs
  have l2 := H.diffs_len (H.diffs xs)
  have l3 := H.diffs_len (H.diffs (H.diffs xs))
  have l4 := H.diffs_len (H.diffs (H.diffs (H.diffs xs)))
  have d1 := fun k hk => rd_dif xs _ (by decide) hx k hk
  have d2 := fun k hk => rd_dif _ _ (by decide) b1 k hk
  have d3 := fun k hk => rd_dif _ _ (by decide) b2 k hk
  have d4 := fun k hk => rd_dif _ _ (by decide) b3 k hk
  have ht : (xs.take (o + j)).length = o + j := by rw [List.length_take]; omega
  have hq : o = 1 ∨ o = 2 ∨ o = 3 ∨ o = 4 := by omega
  unfold H.linN
  rcases hq with rfl | rfl | rfl | rfl
  · have x0 := hx j (by omega)
    have x1 := hx (1 + j) (by omega)
    rw [fixF, tell1, ht, show ((1 + j : Nat) : Int) - 1 = ((j : Nat) : Int) by omega, rd_take _ _ _ (by omega), show H.resP 1 xs = H.diffs xs from rfl, d1 j (by omega), show (j : Int) + 1 = ((1 + j : Nat) : Int) by omega]
    generalize rd xs ((1 + j : Nat) : Int) = y1 at *
    generalize rd xs (j : Int) = y0 at *
    clear d1 d2 d3 d4 b1 b2 b3 b4 hx
    unfold wrap64
    omega
  · have x0 := hx j (by omega)
    have x1 := hx (1 + j) (by omega)
    have x2 := hx (2 + j) (by omega)
    rw [fixF, tell2, ht, show ((2 + j : Nat) : Int) - 1 = ((1 + j : Nat) : Int) by omega, show ((1 + j : Nat) : Int) - 1 = ((j : Nat) : Int) by omega, rd_take _ _ _ (by omega), rd_take _ _ _ (by omega), show H.resP 2 xs = H.diffs (H.diffs xs) from rfl, d2 j (by omega), show (j : Int) + 1 = ((j + 1 : Nat) : Int) by omega, d1 (j + 1) (by omega), d1 j (by omega),
      show ((j + 1 : Nat) : Int) + 1 = ((2 + j : Nat) : Int) by omega, show ((j + 1 : Nat) : Int) = ((1 + j : Nat) : Int) by omega, show (j : Int) + 1 = ((1 + j : Nat) : Int) by omega]
    generalize rd xs ((2 + j : Nat) : Int) = y2 at *
    generalize rd xs ((1 + j : Nat) : Int) = y1 at *
    generalize rd xs (j : Int) = y0 at *
    clear d1 d2 d3 d4 b1 b2 b3 b4 hx
    unfold wrap64
    omega
  · have x0 := hx j (by omega)
    have x1 := hx (1 + j) (by omega)
    have x2 := hx (2 + j) (by omega)
    have x3 := hx (3 + j) (by omega)
    rw [fixF, tell3, ht, show ((3 + j : Nat) : Int) - 1 = ((2 + j : Nat) : Int) by omega, show ((2 + j : Nat) : Int) - 1 = ((1 + j : Nat) : Int) by omega, show ((2 + j : Nat) : Int) - 2 = ((j : Nat) : Int) by omega, rd_take _ _ _ (by omega), rd_take _ _ _ (by omega), rd_take _ _ _ (by omega), show H.resP 3 xs = H.diffs (H.diffs (H.diffs xs)) from rfl,
      d3 j (by omega), show (j : Int) + 1 = ((j + 1 : Nat) : Int) by omega, d2 (j + 1) (by omega), d2 j (by omega), show ((j + 1 : Nat) : Int) + 1 = ((j + 2 : Nat) : Int) by omega, show (j : Int) + 1 = ((j + 1 : Nat) : Int) by omega, d1 (j + 2) (by omega), d1 (j + 1) (by omega), d1 j (by omega),
      show ((j + 2 : Nat) : Int) + 1 = ((3 + j : Nat) : Int) by omega, show ((j + 1 : Nat) : Int) + 1 = ((2 + j : Nat) : Int) by omega, show ((j + 2 : Nat) : Int) = ((2 + j : Nat) : Int) by omega, show ((j + 1 : Nat) : Int) = ((1 + j : Nat) : Int) by omega, show (j : Int) + 1 = ((1 + j : Nat) : Int) by omega]
    generalize rd xs ((3 + j : Nat) : Int) = y3 at *
    generalize rd xs ((2 + j : Nat) : Int) = y2 at *
    generalize rd xs ((1 + j : Nat) : Int) = y1 at *
    generalize rd xs (j : Int) = y0 at *
    clear d1 d2 d3 d4 b1 b2 b3 b4 hx
    unfold wrap64
    omega
  · have x0 := hx j (by omega)
    have x1 := hx (1 + j) (by omega)
    have x2 := hx (2 + j) (by omega)
    have x3 := hx (3 + j) (by omega)
    have x4 := hx (4 + j) (by omega)
    rw [show fixF 4 = [4, -6, 4, -1] from rfl, tell4, ht, show ((4 + j : Nat) : Int) - 1 = ((3 + j : Nat) : Int) by omega, show ((3 + j : Nat) : Int) - 1 = ((2 + j : Nat) : Int) by omega, show ((3 + j : Nat) : Int) - 2 = ((1 + j : Nat) : Int) by omega, show ((3 + j : Nat) : Int) - 3 = ((j : Nat) : Int) by omega, rd_take _ _ _ (by omega), rd_take _ _ _ (by omega), rd_take _ _ _ (by omega), rd_take _ _ _ (by omega),
      show H.resP 4 xs = H.diffs (H.diffs (H.diffs (H.diffs xs))) from rfl, d4 j (by omega), show (j : Int) + 1 = ((j + 1 : Nat) : Int) by omega, d3 (j + 1) (by omega), d3 j (by omega), show ((j + 1 : Nat) : Int) + 1 = ((j + 2 : Nat) : Int) by omega, show (j : Int) + 1 = ((j + 1 : Nat) : Int) by omega, d2 (j + 2) (by omega), d2 (j + 1) (by omega), d2 j (by omega),
      show ((j + 2 : Nat) : Int) + 1 = ((j + 3 : Nat) : Int) by omega, show ((j + 1 : Nat) : Int) + 1 = ((j + 2 : Nat) : Int) by omega, show (j : Int) + 1 = ((j + 1 : Nat) : Int) by omega, d1 (j + 3) (by omega), d1 (j + 2) (by omega), d1 (j + 1) (by omega), d1 j (by omega),
      show ((j + 3 : Nat) : Int) + 1 = ((4 + j : Nat) : Int) by omega, show ((j + 2 : Nat) : Int) + 1 = ((3 + j : Nat) : Int) by omega, show ((j + 1 : Nat) : Int) + 1 = ((2 + j : Nat) : Int) by omega, show ((j + 3 : Nat) : Int) = ((3 + j : Nat) : Int) by omega, show ((j + 2 : Nat) : Int) = ((2 + j : Nat) : Int) by omega, show ((j + 1 : Nat) : Int) = ((1 + j : Nat) : Int) by omega, show (j : Int) + 1 = ((1 + j : Nat) : Int) by omega]
    generalize rd xs ((4 + j : Nat) : Int) = y4 at *
    generalize rd xs ((3 + j : Nat) : Int) = y3 at *
    generalize rd xs ((2 + j : Nat) : Int) = y2 at *
    generalize rd xs ((1 + j : Nat) : Int) = y1 at *
    generalize rd xs (j : Int) = y0 at *
    clear d1 d2 d3 d4 b1 b2 b3 b4 hx
    unfold wrap64
    omega
theorem res_small (xs : List Int) (hx : bnd 8388608 xs) (o : Nat) (ho : 1 ≤ o ∧ o ≤ 4) : ∀ x ∈ H.resP o xs, -2147483648 < x ∧ x < 2147483648 := by
  intro x hm
  obtain ⟨i, hi, rfl⟩ := List.mem_iff_getElem.mp hm
  have := (res_at xs hx o ho i (by rw [res_len] at hi; omega)).2
  rwa [rd_nat _ i hi] at this
theorem lin_res (xs : List Int) (hx : bnd 8388608 xs) (o : Nat) (ho : 1 ≤ o ∧ o ≤ 4) (h : o ≤ xs.length) : H.linL (fixF o) xs 0 o (xs.length - o) [] = (H.resP o xs, 0) := by
  have hl := res_len o xs
  have := linL_eq (fixF o) xs (H.resP o xs) o h hl (fun j hj => res_at xs hx o ho j (by omega)) (xs.length - o) 0 (by omega)
  simpa using this
theorem fixF_len (o : Nat) (ho : 1 ≤ o ∧ o ≤ 4) : (fixF o).length = o := by
  have hq : o = 1 ∨ o = 2 ∨ o = 3 ∨ o = 4 := by omega
  rcases hq with rfl | rfl | rfl | rfl <;> rfl
theorem fixF_ok (o : Nat) (ho : 1 ≤ o ∧ o ≤ 4) : H.checkP 0 5 (fixF o) = 0 := by
  have hq : o = 1 ∨ o = 2 ∨ o = 3 ∨ o = 4 := by omega
  rcases hq with rfl | rfl | rfl | rfl <;> decide
end Go.Proofs.Ytpeejdmbnlhjmaa.FSubframeLinear
