import Derived.Test.YtgdgncdnhpflcaaDoorWMore
import Derived.Test.YtgdgncdnhpflcaaDoorWLast
import Derived.Test.YtgdgncdnhpflcaaDoorLEv
namespace Go.Proofs.YtgdgncdnhpflcaaDoor.L
open Go.RowKit Go.Proofs.YtgdgncdnhpflcaaDoorW.PrintWords Go.Proofs.YtgdgncdnhpflcaaDoorW.PrintLast
set_option linter.unusedVariables false
set_option linter.unusedSimpArgs false
def fxn (F n : Int) : Int := max 0 (min (F + 1) n)
def odn (L n : Int) : Int := max 0 (min L (n - 1))
/-- Numbers rise, from one to another one, and behind one more. -/
def ris (lo hi : Int) : Option Int → List Int → Bool
  | _, [] => true
  | p, x :: l => (decide (lo ≤ x ∧ x ≤ hi) && (match p with | none => true | some q => decide (q < x))) && ris lo hi (some x) l
def polB (B F L : Int) (P S : List Int) (C : Int) : Bool :=
  decide (-1 ≤ F ∧ F ≤ 4) && (decide (0 ≤ L ∧ L ≤ 32) && ((ris 2 15 none P && decide ((P.length : Int) ≤ 4)) && ((ris 0 2 none S && decide ((S.length : Int) ≤ 3)) && (decide (1 ≤ B ∧ B ≤ 65535) && (decide (0 ≤ C ∧ C ≤ 8) && !(decide (0 < L) && (decide ((P.length : Int) = 0) || decide ((S.length : Int) = 0))))))))
def chk (b : Bool) : Int := if b then 0 else 17
theorem chk_zero {b : Bool} (h : chk b = 0) : b = true := by cases b <;> simp [chk] at h ⊢
structure Pol (B F L : Int) (P S : List Int) (C : Int) : Prop where
  fix : -1 ≤ F ∧ F ≤ 4
  lpc : 0 ≤ L ∧ L ≤ 32
  pre : ris 2 15 none P = true
  npre : P.length ≤ 4
  sha : ris 0 2 none S = true
  nsha : S.length ≤ 3
  blk : 1 ≤ B ∧ B ≤ 65535
  cut : 0 ≤ C ∧ C ≤ 8
  ful : 0 < L → P.length ≠ 0 ∧ S.length ≠ 0
theorem Pol.of {B F L : Int} {P S : List Int} {C : Int} (h : polB B F L P S C = true) : Pol B F L P S C := by
  simp only [polB, Bool.and_eq_true, decide_eq_true_eq, Bool.not_eq_true', Bool.and_eq_false_iff, Bool.or_eq_false_iff, decide_eq_false_iff_not] at h
  obtain ⟨h1, h2, ⟨h3, h4⟩, ⟨h5, h6⟩, h7, h8, h9⟩ := h
  exact ⟨h1, h2, h3, by omega, h5, by omega, h7, h8, fun hl => by rcases h9 with h | h <;> omega⟩
theorem ris_pair {lo hi : Int} : ∀ (l : List Int) (p : Option Int), ris lo hi p l = true → l.Pairwise (· < ·) ∧ (∀ x ∈ l, lo ≤ x ∧ x ≤ hi) ∧ (∀ q, p = some q → ∀ x ∈ l, q < x)
  | [], _, _ => by simp
  | x :: l, p, h => by
    simp only [ris, Bool.and_eq_true, decide_eq_true_eq] at h
    obtain ⟨⟨h1, h2⟩, h3⟩ := h
    obtain ⟨a, b, c⟩ := ris_pair l (some x) h3
    have c := c x rfl
    refine ⟨List.pairwise_cons.mpr ⟨c, a⟩, ?_, ?_⟩
    · intro y hy
      rcases List.mem_cons.mp hy with rfl | hy
      · exact h1
      · exact b y hy
    · rintro q rfl y hy
      simp only [decide_eq_true_eq] at h2
      rcases List.mem_cons.mp hy with rfl | hy
      · exact h2
      · exact Int.lt_trans h2 (c y hy)
theorem ris_nodup {lo hi : Int} {p : Option Int} {l : List Int} (h : ris lo hi p l = true) : l.Nodup := (ris_pair l p h).1.imp (fun h e => by omega)
/-- How many choices there are. -/
def cnt (F L : Int) (P S : List Int) (n : Int) : Int := if n < 1 then 0 else 2 + fxn F n + (S.length : Int) * odn L n * (P.length : Int)
theorem cnt_le {B F L : Int} {P S : List Int} {C : Int} (h : Pol B F L P S C) (n : Int) (hn : 1 ≤ n) : 0 ≤ (S.length : Int) * odn L n ∧ (S.length : Int) * odn L n ≤ 96 ∧ 0 ≤ (S.length : Int) * odn L n * (P.length : Int) ∧ (S.length : Int) * odn L n * (P.length : Int) ≤ 384 ∧ 0 ≤ fxn F n ∧ fxn F n ≤ 5 ∧ 0 ≤ odn L n ∧ odn L n ≤ 32 := by
  have h0 : 0 ≤ odn L n ∧ odn L n ≤ 32 := by have := h.lpc; unfold odn; omega
  have h1 : 0 ≤ fxn F n ∧ fxn F n ≤ 5 := by have := h.fix; unfold fxn; omega
  have h2 := h.npre
  have h3 := h.nsha
  have h4 : 0 ≤ (S.length : Int) * odn L n := Int.mul_nonneg (by omega) h0.1
  have h5 : (S.length : Int) * odn L n ≤ 3 * 32 := Int.mul_le_mul (by omega) h0.2 h0.1 (by omega)
  have h6 : 0 ≤ (S.length : Int) * odn L n * (P.length : Int) := Int.mul_nonneg h4 (by omega)
  have h7 : (S.length : Int) * odn L n * (P.length : Int) ≤ 96 * 4 := Int.mul_le_mul (by omega) (by omega) (by omega) (by omega)
  exact ⟨h4, by omega, h6, by omega, h1.1, h1.2, h0.1, h0.2⟩
/-- The choice with a number. -/
def atc (F L : Int) (P S : List Int) (n i : Int) : Int × Int × Int × Int :=
  if i < 2 then (i, 0, 0, 0) else
  if i - 2 < fxn F n then (2, i - 2, 0, 0) else
  (3, 1 + (i - 2 - fxn F n) / (P.length : Int) % odn L n, rd S ((i - 2 - fxn F n) / (P.length : Int) / odn L n), rd P ((i - 2 - fxn F n) % (P.length : Int)))
theorem divs {a n m s : Int} (hn : 0 < n) (hm : 0 < m) (h0 : 0 ≤ a) (h : a < s * m * n) : 0 ≤ a / n ∧ 0 ≤ a / n / m ∧ a / n / m < s ∧ 0 ≤ a % n ∧ a % n < n ∧ 0 ≤ a / n % m ∧ a / n % m < m ∧ a / n ≤ a := by
  have h1 : a / n < s * m := Int.ediv_lt_of_lt_mul hn h
  have h2 : 0 ≤ a / n := Int.ediv_nonneg h0 (by omega)
  exact ⟨h2, Int.ediv_nonneg h2 (by omega), Int.ediv_lt_of_lt_mul hm h1, Int.emod_nonneg _ (by omega), Int.emod_lt_of_pos _ hn, Int.emod_nonneg _ (by omega), Int.emod_lt_of_pos _ hm, Int.ediv_le_self _ h0⟩
theorem many_pos {F L : Int} {P S : List Int} {n i : Int} (hn : ¬ n < 1) (h : i < cnt F L P S n) (h2 : ¬ i < 2) (h3 : ¬ i - 2 < fxn F n) (h0 : 0 ≤ odn L n) : 0 < (P.length : Int) ∧ 0 < odn L n ∧ 0 < (S.length : Int) ∧ i - 2 - fxn F n < (S.length : Int) * odn L n * (P.length : Int) := by
  unfold cnt at h
  rw [if_neg hn] at h
  have hp : 0 < (S.length : Int) * odn L n * (P.length : Int) := by omega
  refine ⟨?_, ?_, ?_, by omega⟩
  · rcases (by omega : 0 < (P.length : Int) ∨ ¬ 0 < (P.length : Int)) with h | h
    · exact h
    · rw [show (P.length : Int) = 0 by omega, Int.mul_zero] at hp; omega
  · rcases (by omega : 0 < (odn L n) ∨ ¬ 0 < (odn L n)) with h | h
    · exact h
    · rw [show odn L n = 0 by omega, Int.mul_zero, Int.zero_mul] at hp; omega
  · rcases (by omega : 0 < (S.length : Int) ∨ ¬ 0 < (S.length : Int)) with h | h
    · exact h
    · rw [show (S.length : Int) = 0 by omega, Int.zero_mul, Int.zero_mul] at hp; omega
theorem rd_inj {l : List Int} (hl : l.Nodup) {i j : Int} (hi : 0 ≤ i) (hi' : i < l.length) (hj : 0 ≤ j) (hj' : j < l.length) (h : rd l i = rd l j) : i = j := by
  obtain ⟨a, rfl⟩ : ∃ a : Nat, i = a := ⟨i.toNat, by omega⟩
  obtain ⟨b, rfl⟩ : ∃ b : Nat, j = b := ⟨j.toNat, by omega⟩
  rw [rd_nat l a (by omega), rd_nat l b (by omega)] at h
  have := (List.getElem_inj hl).mp h
  omega
/-- Where a number stands: its place. -/
theorem where_at {l : List Int} (hl : l.Nodup) {j : Int} (hj : 0 ≤ j) (hj' : j < l.length) : where_ (rd l j) l 0 = j := by
  obtain ⟨a, rfl⟩ : ∃ a : Nat, j = a := ⟨j.toNat, by omega⟩
  rw [rd_nat l a (by omega)]
  have key : ∀ (l : List Int) (a : Nat) (h : a < l.length) (i : Int), l.Nodup → where_ l[a] l i = i + a := by
    intro l
    induction l with
    | nil => intro a h; simp at h
    | cons x l ih =>
      intro a h i hn
      rw [List.nodup_cons] at hn
      cases a with
      | zero => simp [where_]
      | succ a =>
        have hm : (x :: l)[a + 1] ≠ x := by
          simp only [List.getElem_cons_succ]
          intro e
          exact hn.1 (e ▸ List.getElem_mem _)
        unfold where_
        rw [if_neg hm]
        simp only [List.getElem_cons_succ]
        rw [ih a (by simpa using h) (i + 1) hn.2]
        omega
  have := key l a (by omega) 0 hl
  omega
theorem where_spec (a : Int) : ∀ (l : List Int) (i : Int), where_ a l i = -1 ∧ a ∉ l ∨ ∃ j : Nat, ∃ h : j < l.length, l[j] = a ∧ where_ a l i = i + j
  | [], i => by simp [where_]
  | x :: l, i => by
    unfold where_
    by_cases e : a = x
    · rw [if_pos e]; exact .inr ⟨0, by simp, by simp [e], by omega⟩
    · rw [if_neg e]
      rcases where_spec a l (i + 1) with ⟨h, h'⟩ | ⟨j, hj, h, h'⟩
      · exact .inl ⟨h, by simp [e, h']⟩
      · exact .inr ⟨j + 1, by simpa using hj, by simpa using h, by omega⟩
end Go.Proofs.YtgdgncdnhpflcaaDoor.L
