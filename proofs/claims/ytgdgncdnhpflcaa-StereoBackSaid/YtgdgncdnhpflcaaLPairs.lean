import Derived.Test.YtgdgncdnhpflcaaWMore
import Derived.Test.YtgdgncdnhpflcaaWLast
import Derived.Test.YtgdgncdnhpflcaaLEv
namespace Go.Proofs.Ytgdgncdnhpflcaa.L
open Go.RowKit Go.Proofs.YtgdgncdnhpflcaaW.PrintWords Go.Proofs.YtgdgncdnhpflcaaW.PrintLast
set_option linter.unusedVariables false
set_option linter.unusedSimpArgs false
theorem set_fill {α : Type} (z : α) (A : List α) (i : Nat) (h : i < A.length) : (A.take i ++ List.replicate (A.length - i) z).set i A[i] = A.take (i + 1) ++ List.replicate (A.length - (i + 1)) z := by
  have e : A.length - i = (A.length - (i + 1)) + 1 := by omega
  rw [e, List.replicate_succ, List.set_append_right i A[i] (by simp; omega)]
  have e2 : i - (A.take i).length = 0 := by simp; omega
  rw [e2, List.set_cons_zero, List.take_succ_eq_append_getElem h, List.append_assoc]
  rfl
theorem set_fill' {α : Type} (z : α) (A : List α) (n i : Nat) (hn : A.length = n) (h : i < n) (v : α) (hv : A[i]? = some v) : (A.take i ++ List.replicate (n - i) z).set i v = A.take (i + 1) ++ List.replicate (n - (i + 1)) z := by
  subst hn
  have := set_fill z A i h
  rw [List.getElem?_eq_getElem h] at hv
  rw [← Option.some.inj hv]
  exact this
/-- Two lists told pair by pair by f, and told back by g. -/
theorem told_back (P : Int → Prop) (f g : Int → Int → Int × Int) (hfg : ∀ x y, P x → P y → g (f x y).1 (f x y).2 = (x, y)) : ∀ (a b : List Int), a.length = b.length → (∀ x ∈ a, P x) → (∀ x ∈ b, P x) →
    List.zipWith (fun x y => (g x y).1) (List.zipWith (fun x y => (f x y).1) a b) (List.zipWith (fun x y => (f x y).2) a b) = a ∧
    List.zipWith (fun x y => (g x y).2) (List.zipWith (fun x y => (f x y).1) a b) (List.zipWith (fun x y => (f x y).2) a b) = b
  | [], [], _, _, _ => ⟨rfl, rfl⟩
  | [], _ :: _, h, _, _ => by simp at h
  | _ :: _, [], h, _, _ => by simp at h
  | x :: a, y :: b, h, ha, hb => by
    have ih := told_back P f g hfg a b (by simpa using h) (fun z hz => ha z (by simp [hz])) (fun z hz => hb z (by simp [hz]))
    have e := hfg x y (ha x (by simp)) (hb y (by simp))
    simp only [List.zipWith_cons_cons, e, ih.1, ih.2, and_self]
theorem zip_all (Q : Int → Prop) (P : Int → Prop) (f : Int → Int → Int) (hf : ∀ x y, P x → P y → Q (f x y)) : ∀ (a b : List Int), (∀ x ∈ a, P x) → (∀ x ∈ b, P x) → ∀ z ∈ List.zipWith f a b, Q z
  | [], _, _, _ => by simp
  | _ :: _, [], _, _ => by simp
  | x :: a, y :: b, ha, hb => by
    intro z hz
    rw [List.zipWith_cons_cons, List.mem_cons] at hz
    rcases hz with rfl | hz
    · exact hf x y (ha x (by simp)) (hb y (by simp))
    · exact zip_all Q P f hf a b (fun z hz => ha z (by simp [hz])) (fun z hz => hb z (by simp [hz])) z hz
end Go.Proofs.Ytgdgncdnhpflcaa.L
