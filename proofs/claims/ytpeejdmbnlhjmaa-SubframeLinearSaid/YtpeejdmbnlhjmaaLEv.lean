import Derived.Test.YtpeejdmbnlhjmaaWMore
import Derived.Test.YtpeejdmbnlhjmaaWLast
namespace Go.Proofs.Ytpeejdmbnlhjmaa.L
open Go.RowKit Go.Proofs.YtpeejdmbnlhjmaaW.PrintWords Go.Proofs.YtpeejdmbnlhjmaaW.PrintLast
set_option linter.unusedVariables false
set_option linter.unusedSimpArgs false
theorem wr (n : Int) (h : -9223372036854775808 ≤ n ∧ n ≤ 9223372036854775807) : wrap64 n = n := by unfold wrap64; omega
theorem tdiv_pos (a b : Int) (h : 0 ≤ a) : Int.tdiv a b = a / b := Int.tdiv_eq_ediv_of_nonneg h
theorem tmod_pos (a b : Int) (h : 0 ≤ a) : Int.tmod a b = a % b := Int.tmod_eq_emod_of_nonneg h
theorem mx_eq (a b : Int) : mx a b = max a b := by unfold mx; omega
theorem mn_eq (a b : Int) : mn a b = min a b := by unfold mn; omega
section
variable {α β : Type}
theorem evS {a : Option α} {r : α} (h : a = some r) : Ev (fun _ => a) r := ⟨0, fun _ _ => h⟩
theorem evT {c : Prop} [Decidable c] {a b : Nat → Option α} {r : α} (h : c) (e : Ev a r) : Ev (fun k => if c then a k else b k) r := by
  obtain ⟨K, e⟩ := e
  exact ⟨K, fun k hk => by simp only [if_pos h]; exact e k hk⟩
theorem evF {c : Prop} [Decidable c] {a b : Nat → Option α} {r : α} (h : ¬ c) (e : Ev b r) : Ev (fun k => if c then a k else b k) r := by
  obtain ⟨K, e⟩ := e
  exact ⟨K, fun k hk => by simp only [if_neg h]; exact e k hk⟩
theorem evIte {c : Prop} [Decidable c] {a b : Nat → Option α} {r : α} (h : c → Ev a r) (h' : ¬ c → Ev b r) : Ev (fun k => if c then a k else b k) r := by
  by_cases e : c
  · exact evT e (h e)
  · exact evF e (h' e)
theorem evI {c : Prop} [Decidable c] {a b : Nat → Option α} {r q : α} (h : Ev a r) (h' : Ev b q) : Ev (fun k => if c then a k else b k) (if c then r else q) := by
  by_cases e : c
  · rw [if_pos e]; exact evT e h
  · rw [if_neg e]; exact evF e h'
theorem evTT {c : Prop} [Decidable c] {a b : Nat → Option α} {r q : α} (h : c) (e : Ev a r) : Ev (fun k => if c then a k else b k) (if c then r else q) := by
  rw [if_pos h]; exact evT h e
theorem evFF {c : Prop} [Decidable c] {a b : Nat → Option α} {r q : α} (h : ¬ c) (e : Ev b q) : Ev (fun k => if c then a k else b k) (if c then r else q) := by
  rw [if_neg h]; exact evF h e
theorem evB {g : Nat → Option α} {f : Nat → α → Option β} {a : α} {r : β} (h : Ev g a) (k : Ev (fun n => f n a) r) : Ev (fun n => (g n).bind (f n)) r := Ev.bind h k
theorem evC {g : Option α} {f : Nat → α → Option β} {a : α} {r : β} (h : g = some a) (k : Ev (fun n => f n a) r) : Ev (fun n => g.bind (f n)) r := Ev.bind (evS h) k
theorem evR {g : Nat → Option α} {r q : α} (h : Ev g r) (e : r = q) : Ev g q := e ▸ h
theorem ev_inj {g : Nat → Option α} {r q : α} (h : Ev g r) (h' : Ev g q) : r = q := by
  obtain ⟨K, h⟩ := h
  obtain ⟨K', h'⟩ := h'
  have a := h (max K K') (by omega)
  have b := h' (max K K') (by omega)
  rw [a] at b
  exact Option.some.inj b
end
theorem wfb {k : IntKind} {n : Int} (h : (Lit.int k n).wf = true) : k.min ≤ n ∧ n ≤ k.max := by simpa [Lit.wf] using h
theorem wf_u8 {n : Int} (h : (Lit.int .u8 n).wf = true) : 0 ≤ n ∧ n ≤ 255 := wfb h
theorem wf_u16 {n : Int} (h : (Lit.int .u16 n).wf = true) : 0 ≤ n ∧ n ≤ 65535 := wfb h
theorem wf_u32 {n : Int} (h : (Lit.int .u32 n).wf = true) : 0 ≤ n ∧ n ≤ 4294967295 := wfb h
theorem wf_u64 {n : Int} (h : (Lit.int .u64 n).wf = true) : 0 ≤ n ∧ n ≤ 18446744073709551615 := wfb h
theorem wf_i64 {n : Int} (h : (Lit.int .i64 n).wf = true) : -9223372036854775808 ≤ n ∧ n ≤ 9223372036854775807 := wfb h
theorem rd_nat (xs : List Int) (i : Nat) (h : i < xs.length) : rd xs (i : Int) = xs[i] := by
  unfold rd
  simp [List.getD_eq_getElem?_getD, List.getElem?_eq_getElem h]
/-- Where a number stands in a list; below 0: nowhere. -/
def where_ (a : Int) : List Int → Int → Int
  | [], _ => -1
  | x :: l, i => if a = x then i else where_ a l (i + 1)
theorem where_rng (a : Int) : ∀ (l : List Int) (i : Int), 0 ≤ i → (0 ≤ where_ a l i ↔ a ∈ l)
  | [], _, _ => by simp [where_]
  | x :: l, i, h => by
    unfold where_
    by_cases e : a = x
    · simp [e, h]
    · rw [if_neg e, where_rng a l (i + 1) (by omega)]
      simp [e]
theorem drop_cons_rd (l : List Int) (i : Nat) (h : i < l.length) : l.drop i = l[i] :: l.drop (i + 1) := List.drop_eq_getElem_cons h
section
variable {α : Type}
theorem ev_or {c c' : Prop} [Decidable c] [Decidable c'] (g : Nat → Bool → Option α) (f : Bool → α) (h : ∀ b, Ev (fun k => g k b) (f b)) :
    Ev (fun k => if c then g k true else g k (decide c')) (f (decide (c ∨ c'))) := by
  by_cases e : c
  · refine evT e ?_
    rw [decide_eq_true (Or.inl e)]
    exact h true
  · refine evF e ?_
    rw [show decide (c ∨ c') = decide c' by simp [e]]
    exact h _
theorem ev_and {c c' : Prop} [Decidable c] [Decidable c'] (g : Nat → Bool → Option α) (f : Bool → α) (h : ∀ b, Ev (fun k => g k b) (f b)) :
    Ev (fun k => if c then g k (decide c') else g k false) (f (decide (c ∧ c'))) := by
  by_cases e : c
  · refine evT e ?_
    rw [show decide (c ∧ c') = decide c' by simp [e]]
    exact h _
  · refine evF e ?_
    rw [decide_eq_false (fun x => e x.1)]
    exact h false
end
theorem drop_cons_rd' {α : Type} (l : List α) (i : Nat) (h : i < l.length) : l.drop i = l[i] :: l.drop (i + 1) := List.drop_eq_getElem_cons h
end Go.Proofs.Ytpeejdmbnlhjmaa.L
