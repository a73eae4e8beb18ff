import Derived.Test.YtgdgncdnhpflcaaDoorWMore
import Derived.Test.YtgdgncdnhpflcaaDoorWLast
import Derived.Test.YtgdgncdnhpflcaaDoorLEv
import Derived.Test.YtgdgncdnhpflcaaDoorLPol
namespace Go.Proofs.YtgdgncdnhpflcaaDoor.L
open Go.RowKit Go.Proofs.YtgdgncdnhpflcaaDoorW.PrintWords Go.Proofs.YtgdgncdnhpflcaaDoorW.PrintLast
set_option linter.unusedVariables false
set_option linter.unusedSimpArgs false
theorem flatMap_congr' {α β : Type} {f g : α → List β} : ∀ {l : List α}, (∀ a ∈ l, f a = g a) → l.flatMap f = l.flatMap g
  | [], _ => rfl
  | a :: l, h => by rw [List.flatMap_cons, List.flatMap_cons, h a (by simp), flatMap_congr' (fun b hb => h b (by simp [hb]))]
theorem range_nest {α : Type} (f : Nat → α) (b : Nat) : ∀ a : Nat, (List.range (a * b)).map f = (List.range a).flatMap (fun i => (List.range b).map (fun j => f (i * b + j)))
  | 0 => by simp
  | a + 1 => by
    rw [Nat.add_mul, Nat.one_mul, List.range_add, List.map_append, range_nest f b a, List.range_succ, List.flatMap_append, List.map_map]
    simp [Function.comp_def]
theorem range_nestf {α : Type} (g : Nat → List α) (b : Nat) : ∀ a : Nat, (List.range (a * b)).flatMap g = (List.range a).flatMap (fun i => (List.range b).flatMap (fun j => g (i * b + j)))
  | 0 => by simp
  | a + 1 => by
    rw [Nat.add_mul, Nat.one_mul, List.range_add, List.flatMap_append, range_nestf g b a, List.range_succ, List.flatMap_append, List.flatMap_map]
    simp
theorem map_rd {α : Type} (g : Int → α) (S : List Int) : S.map g = (List.range S.length).map (fun (i : Nat) => g (rd S (i : Int))) := by
  apply List.ext_getElem
  · simp
  · intro i h1 h2
    have h : i < S.length := by simpa using h1
    simp only [List.getElem_map, List.getElem_range]
    rw [rd_nat S i h]
theorem flatMap_rd {α : Type} (g : Int → List α) (S : List Int) : S.flatMap g = (List.range S.length).flatMap (fun (i : Nat) => g (rd S (i : Int))) := by
  rw [List.flatMap_def, map_rd g S, ← List.flatMap_def]
abbrev Q4 := Int × Int × Int × Int
def lins (L : Int) (P S : List Int) (n : Int) : List Q4 := S.flatMap (fun s => (List.range (odn L n).toNat).flatMap (fun o : Nat => P.map (fun p => ((3 : Int), 1 + (o : Int), s, p))))
/-- All choices. -/
def allT (F L : Int) (P S : List Int) (n : Int) : List Q4 :=
  if n < 1 then [] else [(0, 0, 0, 0), (1, 0, 0, 0)] ++ (List.range (fxn F n).toNat).map (fun i : Nat => ((2 : Int), (i : Int), (0 : Int), (0 : Int))) ++ lins L P S n
theorem lins_eq {B F L : Int} {P S : List Int} {C : Int} (pol : Pol B F L P S C) (n : Int) (hn : 1 ≤ n) :
    (List.range (S.length * (odn L n).toNat * P.length)).map (fun j : Nat => atc F L P S n (2 + fxn F n + (j : Int))) = lins L P S n := by
  have hl := cnt_le pol n hn
  unfold lins
  rw [range_nest, range_nestf, flatMap_rd]
  apply flatMap_congr'
  intro i hi
  apply flatMap_congr'
  intro o ho
  rw [map_rd]
  apply List.map_congr_left
  intro p hp
  rw [List.mem_range] at hi ho hp
  unfold atc
  have e : 2 + fxn F n + (((i * (odn L n).toNat + o) * P.length + p : Nat) : Int) - 2 - fxn F n = (((i * (odn L n).toNat + o) * P.length + p : Nat) : Int) := by omega
  rw [if_neg (by omega), if_neg (by omega), e]
  have e1 : (((i * (odn L n).toNat + o) * P.length + p : Nat) : Int) / (P.length : Int) = ((i * (odn L n).toNat + o : Nat) : Int) := by
    rw [← Int.natCast_ediv]
    congr 1
    rw [Nat.mul_comm _ P.length, Nat.mul_add_div (by omega), Nat.div_eq_of_lt hp, Nat.add_zero]
  have e2 : (((i * (odn L n).toNat + o) * P.length + p : Nat) : Int) % (P.length : Int) = (p : Int) := by
    rw [← Int.natCast_emod]
    congr 1
    rw [Nat.mul_comm _ P.length, Nat.mul_add_mod, Nat.mod_eq_of_lt hp]
  have em : odn L n = ((odn L n).toNat : Int) := by omega
  have e3 : ((i * (odn L n).toNat + o : Nat) : Int) / odn L n = (i : Int) := by
    rw [em, ← Int.natCast_ediv]
    congr 1
    rw [Int.toNat_natCast, Nat.mul_comm, Nat.mul_add_div (by omega), Nat.div_eq_of_lt ho, Nat.add_zero]
  have e4 : ((i * (odn L n).toNat + o : Nat) : Int) % odn L n = (o : Int) := by
    rw [em, ← Int.natCast_emod]
    congr 1
    rw [Int.toNat_natCast, Nat.mul_comm, Nat.mul_add_mod, Nat.mod_eq_of_lt ho]
  rw [e1, e2, e3, e4]
theorem all_eq {B F L : Int} {P S : List Int} {C : Int} (pol : Pol B F L P S C) (n : Int) : (List.range (cnt F L P S n).toNat).map (fun i : Nat => atc F L P S n (i : Int)) = allT F L P S n := by
  unfold allT
  by_cases hn : n < 1
  · rw [if_pos hn]
    unfold cnt
    rw [if_pos hn]
    rfl
  · rw [if_neg hn, ← lins_eq pol n (by omega)]
    have hl := cnt_le pol n (by omega)
    have hc : (cnt F L P S n).toNat = 2 + (fxn F n).toNat + S.length * (odn L n).toNat * P.length := by
      unfold cnt
      rw [if_neg hn]
      have : (S.length : Int) * odn L n * (P.length : Int) = ((S.length * (odn L n).toNat * P.length : Nat) : Int) := by
        rw [Int.natCast_mul, Int.natCast_mul, show ((odn L n).toNat : Int) = odn L n by omega]
      omega
    rw [hc, List.range_add, List.range_add, List.map_append, List.map_append, List.map_map, List.map_map]
    congr 1
    · congr 1
      apply List.map_congr_left
      intro i hi
      rw [List.mem_range] at hi
      simp only [Function.comp_apply]
      unfold atc
      rw [if_neg (by omega), if_pos (by omega)]
      congr 2
      omega
    · apply List.map_congr_left
      intro i _
      simp only [Function.comp_apply]
      congr 1
      omega
theorem flatMap_sub {α β : Type} {f g : α → List β} (h : ∀ a, (f a).Sublist (g a)) : ∀ l : List α, (l.flatMap f).Sublist (l.flatMap g)
  | [] => by simp
  | a :: l => by rw [List.flatMap_cons, List.flatMap_cons]; exact (h a).append (flatMap_sub h l)
theorem sub_flatMap {α β : Type} (f : α → List β) {a b : List α} (h : a.Sublist b) : (a.flatMap f).Sublist (b.flatMap f) := by
  induction h with
  | slnil => simp
  | cons x _ ih => rw [List.flatMap_cons]; exact ih.trans (List.sublist_append_right _ _)
  | cons_cons x _ ih => rw [List.flatMap_cons, List.flatMap_cons]; exact (List.Sublist.refl _).append ih
theorem all_sub (F L : Int) (P S : List Int) {n m : Int} (h : n ≤ m) : (allT F L P S n).Sublist (allT F L P S m) := by
  unfold allT
  by_cases hn : n < 1
  · rw [if_pos hn]; exact List.nil_sublist _
  · rw [if_neg hn, if_neg (by omega)]
    refine ((List.Sublist.refl _).append ((List.range_sublist.mpr ?_).map _)).append ?_
    · unfold fxn; omega
    · unfold lins
      refine flatMap_sub (fun s => sub_flatMap _ (List.range_sublist.mpr ?_)) S
      unfold odn; omega
end Go.Proofs.YtgdgncdnhpflcaaDoor.L
