import Derived.Test.YtdacblackoaphaaPBoundFramesx14
import Derived.Test.YtdacblackoaphaaLEv
namespace Go.Proofs.Ytdacblackoaphaa.FBoundFrames
open Go.RowKit Go.Proofs.YtdacblackoaphaaW.PrintWords Go.Proofs.YtdacblackoaphaaW.PrintLast Go.Proofs.Ytdacblackoaphaa.PBoundFrames Go.Proofs.Ytdacblackoaphaa.L
set_option linter.unusedVariables false
set_option linter.unusedSimpArgs false
/-- It answers, and the answer is so. -/
def EvX {α : Type} (Q : α → Prop) (g : Nat → Option α) : Prop := ∃ r, Ev g r ∧ Q r
section
variable {α β : Type} {Q : α → Prop}
theorem xNow {r : α} (h : Q r) : EvX Q (fun _ => some r) := ⟨r, Ev.now r, h⟩
theorem xStep {g f : Nat → Option α} (e : ∀ k, g (k + 1) = f k) (h : EvX Q f) : EvX Q g := by
  obtain ⟨r, h, q⟩ := h
  exact ⟨r, Ev.step e h, q⟩
theorem xIte {c : Prop} [Decidable c] {a b : Nat → Option α} (h : c → EvX Q a) (h' : ¬ c → EvX Q b) : EvX Q (fun k => if c then a k else b k) := by
  by_cases e : c
  · obtain ⟨r, h, q⟩ := h e
    exact ⟨r, evT e h, q⟩
  · obtain ⟨r, h, q⟩ := h' e
    exact ⟨r, evF e h, q⟩
theorem xT {c : Prop} [Decidable c] {a b : Nat → Option α} (e : c) (h : EvX Q a) : EvX Q (fun k => if c then a k else b k) := xIte (fun _ => h) (fun x => absurd e x)
theorem xF {c : Prop} [Decidable c] {a b : Nat → Option α} (e : ¬ c) (h : EvX Q b) : EvX Q (fun k => if c then a k else b k) := xIte (fun x => absurd x e) (fun _ => h)
theorem xB {Q' : β → Prop} {g : Nat → Option β} {f : Nat → β → Option α} (h : EvX Q' g) (k : ∀ a, Q' a → EvX Q (fun n => f n a)) : EvX Q (fun n => (g n).bind (f n)) := by
  obtain ⟨a, h, q⟩ := h
  obtain ⟨r, k, q'⟩ := k a q
  exact ⟨r, evB h k, q'⟩
theorem xEv {g : Nat → Option α} {r : α} (h : Ev g r) (q : Q r) : EvX Q g := ⟨r, h, q⟩
theorem xMono {Q' : α → Prop} {g : Nat → Option α} (h : EvX Q' g) (k : ∀ r, Q' r → Q r) : EvX Q g := by
  obtain ⟨r, h, q⟩ := h
  exact ⟨r, h, k r q⟩
end
theorem rdOf_nat {α : Type} (d : α) (xs : List α) (i : Nat) (h : i < xs.length) : rdOf d xs (i : Int) = xs[i] := by
  unfold rdOf
  rw [Int.toNat_natCast]
  rw [List.getD_eq_getElem?_getD, List.getElem?_eq_getElem h]; rfl
/-! ### runes and texts: that they answer -/
theorem rune_l0 (l : List Int) (s lo : Int) (hs : s ≤ 4 ∧ s ≤ l.length ∧ 0 ≤ s) (d : Nat) : ∀ (n i : Int), 1 ≤ i → (s - i).toNat ≤ d → EvX (fun r : Int × Int => 0 ≤ r.2 ∧ r.2 ≤ l.length) (fun k => serinetteref18_Rune.l0 k l s n lo i) := by
  induction d with
  | zero =>
    intro n i h1 hd
    refine xStep (fun k => serinetteref18_Rune.l0.eq_2 ..) (xF (by omega) ?_)
    have z : EvX (fun r : Int × Int => 0 ≤ r.2 ∧ r.2 ≤ l.length) (fun _ => some ((0 : Int), (0 : Int))) := xNow ⟨by simp, by simp⟩
    have y : EvX (fun r : Int × Int => 0 ≤ r.2 ∧ r.2 ≤ l.length) (fun _ => some (n, s)) := xNow ⟨hs.2.2, hs.2.1⟩
    exact xIte (fun _ => z) (fun _ => xIte (fun _ => z) (fun _ => xIte (fun _ => xIte (fun _ => z) (fun _ => y)) (fun _ => y)))
  | succ d ih =>
    intro n i h1 hd
    have z : EvX (fun r : Int × Int => 0 ≤ r.2 ∧ r.2 ≤ l.length) (fun _ => some ((0 : Int), (0 : Int))) := xNow ⟨by simp, by simp⟩
    have y : EvX (fun r : Int × Int => 0 ≤ r.2 ∧ r.2 ≤ l.length) (fun _ => some (n, s)) := xNow ⟨hs.2.2, hs.2.1⟩
    refine xStep (fun k => serinetteref18_Rune.l0.eq_2 ..) (xIte (fun c => ?_) (fun _ => ?_))
    · refine xT (by omega) (xT (by omega) (xIte (fun _ => z) (fun _ => xIte (fun _ => z) (fun _ => ?_))))
      rw [wr (i + 1) (by omega)]
      exact ih _ _ (by omega) (by omega)
    · exact xIte (fun _ => z) (fun _ => xIte (fun _ => z) (fun _ => xIte (fun _ => xIte (fun _ => z) (fun _ => y)) (fun _ => y)))
theorem rune_j6 (l : List Int) (s n lo : Int) (b : Bool) (hb : b = false → s ≤ l.length) (hs : s ≤ 4 ∧ 0 ≤ s) : EvX (fun r : Int × Int => 0 ≤ r.2 ∧ r.2 ≤ l.length) (fun k => serinetteref18_Rune.j6 k l s n lo b) := by
  refine xStep (fun k => serinetteref18_Rune.j6.eq_2 ..) (xIte (fun _ => xNow ⟨by simp, by simp⟩) (fun c => ?_))
  exact rune_l0 l s lo ⟨hs.1, hb (by simpa using c), hs.2⟩ _ n 1 (by omega) (Nat.le_refl _)
theorem rune_j5 (l : List Int) (s n lo : Int) (hs : s ≤ 4 ∧ 0 ≤ s) : EvX (fun r : Int × Int => 0 ≤ r.2 ∧ r.2 ≤ l.length) (fun k => serinetteref18_Rune.j5 k l s n lo) := by
  refine xStep (fun k => serinetteref18_Rune.j5.eq_2 ..) (xIte (fun _ => ?_) (fun _ => ?_))
  · exact rune_j6 l s n lo true (by simp) hs
  · exact rune_j6 l s n lo _ (fun h => by have := of_decide_eq_false h; omega) hs
theorem rune_j3 (l : List Int) (c s n lo : Int) (hs : s ≤ 4 ∧ 0 ≤ s) : EvX (fun r : Int × Int => 0 ≤ r.2 ∧ r.2 ≤ l.length) (fun k => serinetteref18_Rune.j3 k l c s n lo) := by
  have h4 : ∀ b, EvX (fun r : Int × Int => 0 ≤ r.2 ∧ r.2 ≤ l.length) (fun k => serinetteref18_Rune.j4 k l c s n lo b) := fun b => xStep (fun k => serinetteref18_Rune.j4.eq_2 ..) (xIte (fun _ => rune_j5 l 4 _ _ (by omega)) (fun _ => rune_j5 l s _ _ hs))
  exact xStep (fun k => serinetteref18_Rune.j3.eq_2 ..) (xIte (fun _ => h4 _) (fun _ => h4 _))
theorem rune_j1 (l : List Int) (c s n lo : Int) (hs : s ≤ 4 ∧ 0 ≤ s) : EvX (fun r : Int × Int => 0 ≤ r.2 ∧ r.2 ≤ l.length) (fun k => serinetteref18_Rune.j1 k l c s n lo) := by
  have h4 : ∀ b, EvX (fun r : Int × Int => 0 ≤ r.2 ∧ r.2 ≤ l.length) (fun k => serinetteref18_Rune.j2 k l c s n lo b) := fun b => xStep (fun k => serinetteref18_Rune.j2.eq_2 ..) (xIte (fun _ => rune_j3 l c 3 _ _ (by omega)) (fun _ => rune_j3 l c s _ _ hs))
  exact xStep (fun k => serinetteref18_Rune.j1.eq_2 ..) (xIte (fun _ => h4 _) (fun _ => h4 _))
theorem rune_ev (l : List Int) : EvX (fun r : Int × Int => 0 ≤ r.2 ∧ r.2 ≤ l.length) (fun k => serinetteref18_Rune.f k l) := by
  have h4 : ∀ c b, EvX (fun r : Int × Int => 0 ≤ r.2 ∧ r.2 ≤ l.length) (fun k => serinetteref18_Rune.j0 k l c 0 0 0 b) := fun c b => xStep (fun k => serinetteref18_Rune.j0.eq_2 ..) (xIte (fun _ => rune_j1 l c 2 _ _ (by omega)) (fun _ => rune_j1 l c 0 _ _ (by omega)))
  unfold serinetteref18_Rune.f
  refine xIte (fun _ => xNow ⟨by simp, by simp⟩) (fun c => xT (by omega) (xIte (fun _ => xNow ⟨by simp, by simp; omega⟩) (fun _ => xIte (fun _ => h4 _ _) (fun _ => h4 _ _))))
theorem text_l0 (n : Nat) : ∀ (l : List Int), l.length ≤ n → EvX (fun _ : Bool => True) (fun k => serinetteref18_Text.l0 k l) := by
  induction n with
  | zero =>
    intro l h
    exact xStep (fun k => serinetteref18_Text.l0.eq_2 ..) (xF (by omega) (xNow trivial))
  | succ n ih =>
    intro l h
    refine xStep (fun k => serinetteref18_Text.l0.eq_2 ..) (xIte (fun c => ?_) (fun _ => xNow trivial))
    refine xB (rune_ev l) (fun a ha => xIte (fun _ => xNow trivial) (fun c0 => xT ha.1 (xT ha.2 ?_)))
    exact ih _ (by rw [List.length_drop]; omega)
theorem text_ev (s : ByteArray) (h : s.size ≤ 9223372036854775807) : EvX (fun _ : Bool => True) (fun k => serinetteref18_Text.f k s) := by
  unfold serinetteref18_Text.f
  exact xT h (text_l0 _ _ (Nat.le_refl _))
theorem field_l0 (s : ByteArray) (h : s.size ≤ 9223372036854775807) (d : Nat) : ∀ (i : Int), 0 ≤ i → ((s.size : Int) - i).toNat ≤ d → EvX (fun _ : Bool => True) (fun k => serinetteref18_Field.l0 k s i) := by
  induction d with
  | zero =>
    intro i h0 hd
    exact xStep (fun k => serinetteref18_Field.l0.eq_2 ..) (xF (by omega) (xNow trivial))
  | succ d ih =>
    intro i h0 hd
    refine xStep (fun k => serinetteref18_Field.l0.eq_2 ..) (xIte (fun c => ?_) (fun _ => xNow trivial))
    refine xT h0 (xIte (fun _ => xNow trivial) (fun _ => xIte (fun _ => xNow trivial) (fun _ => xIte (fun _ => xNow trivial) (fun _ => ?_))))
    rw [wr (i + 1) (by omega)]
    exact ih _ (by omega) (by omega)
theorem field_ev (s : ByteArray) (h : s.size ≤ 9223372036854775807) : EvX (fun _ : Bool => True) (fun k => serinetteref18_Field.f k s) := by
  unfold serinetteref18_Field.f
  exact xB (text_ev s h) (fun _ _ => xIte (fun _ => field_l0 s h _ 0 (by omega) (Nat.le_refl _)) (fun _ => xNow trivial))
theorem right_l0 (m : ByteArray) (l : List ByteArray) (hl : l.length ≤ 9223372036854775807) (h : ∀ x ∈ l, x.size ≤ 9223372036854775807) (d : Nat) : ∀ (i : Nat) (z : Int), i + d = l.length → EvX (fun _ : Bool => True) (fun k => serinetteref18_CommentRight.l0 k z (i : Int) m l) := by
  induction d with
  | zero =>
    intro i z hi
    exact xStep (fun k => serinetteref18_CommentRight.l0.eq_2 ..) (xF (by omega) (xNow trivial))
  | succ d ih =>
    intro i z hi
    refine xStep (fun k => serinetteref18_CommentRight.l0.eq_2 ..) (xT (by omega) (xT (by omega) ?_))
    rw [rdOf_nat _ _ _ (by omega : i < l.length)]
    refine xB (field_ev _ (h _ (List.getElem_mem _))) (fun _ _ => xIte (fun _ => ?_) (fun _ => xNow trivial))
    rw [wr ((i : Int) + 1) (by omega)]
    exact ih (i + 1) _ (by omega)
theorem right_ev (m : ByteArray) (l : List ByteArray) (hm : m.size ≤ 9223372036854775807) (hl : l.length ≤ 9223372036854775807) (h : ∀ x ∈ l, x.size ≤ 9223372036854775807) : EvX (fun _ : Bool => True) (fun k => serinetteref18_CommentRight.f k m l) := by
  unfold serinetteref18_CommentRight.f
  exact xB (text_ev m hm) (fun _ _ => xIte (fun _ => right_l0 m l hl h _ 0 _ (Nat.zero_add _)) (fun _ => xNow trivial))
/-- What few means of the options. -/
def fewO (m : ByteArray) (l : List ByteArray) (p : Int) : Prop := m.size ≤ 50 ∧ l.length ≤ 10 ∧ (∀ x ∈ l, x.size ≤ 50) ∧ (p ≤ 50 ∨ p > 16777215)
theorem few_l1 (m : ByteArray) (l : List ByteArray) (e p : Int) (hl : l.length ≤ 9223372036854775807) (d : Nat) : ∀ (i : Nat), i + d = l.length → (∀ j (h : j < l.length), j < i → l[j].size ≤ 50) →
    EvX (fun b : Bool => b = true → fewO m l p) (fun k => serinetteref23_Few.l1 k (i : Int) 0 false 0 0 [] [] 0 false m l e p) := by
  induction d with
  | zero =>
    intro i hi hj
    have z : EvX (fun b : Bool => b = true → fewO m l p) (fun _ => some false) := xNow (by simp)
    refine xStep (fun k => serinetteref23_Few.l1.eq_2 ..) (xF (by omega) (xIte (fun _ => xIte (fun _ => xIte (fun _ => xIte (fun c => xIte (fun c1 => ?_) (fun _ => z)) (fun _ => z)) (fun _ => z)) (fun _ => z)) (fun _ => z)))
    have hall : ∀ x ∈ l, x.size ≤ 50 := fun x hx => by
      obtain ⟨j, hj1, rfl⟩ := List.mem_iff_getElem.1 hx
      exact hj j hj1 (by omega)
    exact xIte (fun c2 => xNow (fun _ => ⟨by omega, by omega, hall, by omega⟩)) (fun _ => xNow (fun hd => ⟨by omega, by omega, hall, by have := of_decide_eq_true hd; omega⟩))
  | succ d ih =>
    intro i hi hj
    refine xStep (fun k => serinetteref23_Few.l1.eq_2 ..) (xT (by omega) (xT (by omega) ?_))
    rw [rdOf_nat _ _ _ (by omega : i < l.length)]
    refine xIte (fun _ => xNow (by simp)) (fun c => ?_)
    rw [wr ((i : Int) + 1) (by omega)]
    refine ih (i + 1) (by omega) (fun j h1 h2 => ?_)
    rcases Nat.lt_or_ge j i with h3 | h3
    · exact hj j h1 h3
    · obtain rfl : j = i := by omega
      omega
theorem few_ev (m : ByteArray) (l : List ByteArray) (e p : Int) (hl : l.length ≤ 9223372036854775807) :
    EvX (fun b : Bool => b = true → fewO m l p) (fun k => serinetteref23_Few.f k 0 0 ([] : List (List Int)) 0 false 0 0 ([] : List Int) ([] : List Int) 0 false m l e p) := by
  unfold serinetteref23_Few.f
  refine xF (by simp) (xF (by simp) (xStep (fun k => serinetteref23_Few.j0.eq_2 ..) (xF (by simp) (xStep (fun k => serinetteref23_Few.l0.eq_2 ..) (xF (by simp) ?_)))))
  exact few_l1 m l e p hl _ 0 (Nat.zero_add _) (fun j _ h => by omega)
end Go.Proofs.Ytdacblackoaphaa.FBoundFrames
