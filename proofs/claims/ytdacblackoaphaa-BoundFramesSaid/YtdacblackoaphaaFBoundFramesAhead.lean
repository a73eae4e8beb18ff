import Derived.Test.YtdacblackoaphaaPBoundFramesx14
import Derived.Test.YtdacblackoaphaaLEv
import Derived.Test.YtdacblackoaphaaFBoundFramesFew
namespace Go.Proofs.Ytdacblackoaphaa.FBoundFrames
open Go.RowKit Go.Proofs.YtdacblackoaphaaW.PrintWords Go.Proofs.YtdacblackoaphaaW.PrintLast Go.Proofs.Ytdacblackoaphaa.PBoundFrames Go.Proofs.Ytdacblackoaphaa.L
set_option linter.unusedVariables false
set_option linter.unusedSimpArgs false
def csum (l : List ByteArray) : Nat := (l.map fun x => 4 + x.size).sum
theorem csum_drop (l : List ByteArray) (i : Nat) (h : i < l.length) : csum (l.drop i) = 4 + l[i].size + csum (l.drop (i + 1)) := by
  unfold csum
  rw [List.drop_eq_getElem_cons h, List.map_cons, List.sum_cons]
theorem csum_end (l : List ByteArray) (i : Nat) (h : l.length ≤ i) : csum (l.drop i) = 0 := by
  unfold csum
  rw [List.drop_eq_nil_of_le h]; rfl
theorem csum_le (l : List ByteArray) (h : ∀ x ∈ l, x.size ≤ 50) : csum l ≤ 54 * l.length := by
  induction l with
  | nil => simp [csum]
  | cons a l ih =>
    have h1 := h a (by simp)
    have h2 := ih (fun x hx => h x (by simp [hx]))
    have : csum (a :: l) = 4 + a.size + csum l := by simp [csum]
    rw [List.length_cons]; omega
theorem little_some (n : Int) : ∃ r, serinetteref18_Little.f n = some r ∧ r.length = 4 := ⟨_, rfl, rfl⟩
theorem body_l0 (m : ByteArray) (l : List ByteArray) (hl : l.length ≤ 10) (h : ∀ x ∈ l, x.size ≤ 50) (d : Nat) : ∀ (i : Nat) (o : List Int), i + d = l.length → o.length + csum (l.drop i) ≤ 1000000 →
    EvX (fun r : List Int => r.length = o.length + csum (l.drop i)) (fun k => serinetteref18_CommentBody.l0 k o (i : Int) m l) := by
  induction d with
  | zero =>
    intro i o hi ho
    refine xStep (fun k => serinetteref18_CommentBody.l0.eq_2 ..) (xF (by omega) (xNow ?_))
    rw [csum_end l i (by omega)]; rfl
  | succ d ih =>
    intro i o hi ho
    have hc := csum_drop l i (by omega)
    have h50 := h _ (List.getElem_mem (show i < l.length by omega))
    refine xStep (fun k => serinetteref18_CommentBody.l0.eq_2 ..) (xT (by omega) (xT (by omega) ?_))
    rw [rdOf_nat _ _ _ (by omega : i < l.length)]
    obtain ⟨q, hq, hq4⟩ := little_some (l[i].size : Int)
    refine xB (Q' := fun r => r = q) (xEv (evS hq) rfl) (fun a ha => ?_)
    subst ha
    have hb := bytesOf_length l[i]
    refine xT (by omega) (xB (Q' := fun r => r = o ++ a) (xNow rfl) (fun b hb' => ?_))
    subst hb'
    refine xT (by omega) (xB (Q' := fun r => r = bytesOf l[i]) (xNow rfl) (fun b hb' => ?_))
    subst hb'
    refine xT (by rw [List.length_append]; omega) ?_
    rw [wr ((i : Int) + 1) (by omega)]
    refine xMono (ih (i + 1) ((o ++ a) ++ bytesOf l[i]) (by omega) (by simp only [List.length_append]; omega)) (fun r hr => ?_)
    simp only [List.length_append] at hr
    omega
theorem body_ev (m : ByteArray) (l : List ByteArray) (hm : m.size ≤ 50) (hl : l.length ≤ 10) (h : ∀ x ∈ l, x.size ≤ 50) :
    EvX (fun r : List Int => r.length = 8 + m.size + csum l) (fun k => serinetteref18_CommentBody.f k m l) := by
  have hs := csum_le l h
  unfold serinetteref18_CommentBody.f
  obtain ⟨q, hq, hq4⟩ := little_some (m.size : Int)
  refine xB (Q' := fun r => r = q) (xEv (evS hq) rfl) (fun a ha => ?_)
  subst ha
  have hb := bytesOf_length m
  refine xT (by omega) (xB (Q' := fun r => r = bytesOf m) (xNow rfl) (fun b hb' => ?_))
  subst hb'
  refine xT (by omega) (xB (Q' := fun r => r = a ++ bytesOf m) (xNow rfl) (fun b hb' => ?_))
  subst hb'
  obtain ⟨q2, hq2, hq24⟩ := little_some (l.length : Int)
  refine xB (Q' := fun r => r = q2) (xEv (evS hq2) rfl) (fun c hc => ?_)
  subst hc
  refine xT (by simp only [List.length_append]; omega) ?_
  refine xMono (body_l0 m l hl h _ 0 _ (Nat.zero_add _) (by rw [List.drop_zero]; simp only [List.length_append]; omega)) (fun r hr => ?_)
  rw [List.drop_zero] at hr
  simp only [List.length_append] at hr
  omega
theorem number_l0 (d : Nat) : ∀ (n : Int) (o : List Int) (i : Int), 0 ≤ i → (d : Int) = 3 - i → o.length = i.toNat → EvX (fun r : List Int => r.length = 3) (fun k => serinetteref18_Number.l0 k n 3 o i) := by
  induction d with
  | zero =>
    intro n o i h0 hd ho
    exact xStep (fun k => serinetteref18_Number.l0.eq_2 ..) (xF (by omega) (xNow (by omega)))
  | succ d ih =>
    intro n o i h0 hd ho
    refine xStep (fun k => serinetteref18_Number.l0.eq_2 ..) (xT (by omega) (xB (Q' := fun r : List Int => r.length = 1) (xNow rfl) (fun b hb => xT (by omega) ?_)))
    rw [wr (i + 1) (by omega)]
    exact ih _ _ _ (by omega) (by omega) (by rw [List.length_append]; omega)
theorem number_ev (n : Int) : EvX (fun r : List Int => r.length = 3) (fun k => serinetteref18_Number.f k n 3) := by
  unfold serinetteref18_Number.f
  exact number_l0 3 n [] 0 (by omega) (by omega) rfl
theorem odd_ev (t : Int) (b : List Int) (ht : 0 ≤ t ∧ t ≤ 126) (hb : b.length ≤ 16777215) : Ev (fun k => serinetteref18_Odd.f k t b) 0 := by
  unfold serinetteref18_Odd.f
  refine evF (by omega) (Ev.step (fun k => serinetteref18_Odd.j0.eq_2 ..) (evF (by simp; omega) (evF (by omega) (Ev.now _))))
theorem rdT_nat (l : List S57) (i : Nat) (h : i < l.length) : rd_T57 l (i : Int) = l[i] := by
  unfold rd_T57
  rw [Int.toNat_natCast]
  rw [List.getD_eq_getElem?_getD, List.getElem?_eq_getElem h]; rfl
def psum (l : List S57) : Nat := (l.map fun x => 4 + x.f1.length).sum
theorem psum_drop (l : List S57) (i : Nat) (h : i < l.length) : psum (l.drop i) = 4 + l[i].f1.length + psum (l.drop (i + 1)) := by
  unfold psum
  rw [List.drop_eq_getElem_cons h, List.map_cons, List.sum_cons]
theorem psum_end (l : List S57) (i : Nat) (h : l.length ≤ i) : psum (l.drop i) = 0 := by
  unfold psum
  rw [List.drop_eq_nil_of_le h]; rfl
def blocksOk (l : List S57) : Prop := ∀ i (h : i < l.length), 0 ≤ l[i].f0 ∧ l[i].f0 ≤ 126 ∧ l[i].f1.length ≤ 100000 ∧ (l[i].f0 = 0 ↔ i = 0)
theorem ok_snoc (x : List S57) (t : Int) (b : List Int) (h : blocksOk x) (h1 : 1 ≤ x.length) (ht : 1 ≤ t ∧ t ≤ 126) (hb : b.length ≤ 100000) : blocksOk (x ++ [(⟨t, b⟩ : S57)]) := by
  intro i hi
  by_cases c : i < x.length
  · rw [List.getElem_append_left c]; exact h i c
  · have hi' := hi
    rw [List.length_append, List.length_cons, List.length_nil] at hi'
    obtain rfl : i = x.length := by omega
    have e : (x ++ [(⟨t, b⟩ : S57)])[x.length] = ⟨t, b⟩ := by simp
    rw [e]
    exact ⟨show 0 ≤ t by omega, ht.2, hb, by show t = 0 ↔ x.length = 0; omega⟩
theorem ok_one (b : List Int) (hb : b.length ≤ 100000) : blocksOk [(⟨0, b⟩ : S57)] := by
  intro i hi
  match i, hi with
  | 0, _ => exact ⟨show (0 : Int) ≤ 0 by omega, show (0 : Int) ≤ 126 by omega, hb, by show (0 : Int) = 0 ↔ (0 : Nat) = 0; simp⟩
theorem psum_snoc (x : List S57) (t : Int) (b : List Int) : psum (x ++ [(⟨t, b⟩ : S57)]) = psum x + (4 + b.length) := by simp [psum]
theorem psum_one (t : Int) (b : List Int) : psum [(⟨t, b⟩ : S57)] = 4 + b.length := by simp [psum]
theorem pack_l1 (l : List S57) (h : blocksOk l) (hn : l.length ≤ 10) (d : Nat) : ∀ (i : Nat) (o : List Int), i + d = l.length → o.length + psum (l.drop i) ≤ 10000000 →
    EvX (fun r : List Int × Int => r.1.length = o.length + psum (l.drop i)) (fun k => serinetteref18_Pack.l1 k l o (i : Int)) := by
  induction d with
  | zero =>
    intro i o hi ho
    refine xStep (fun k => serinetteref18_Pack.l1.eq_2 ..) (xF (by omega) (xNow ?_))
    rw [psum_end l i (by omega)]; rfl
  | succ d ih =>
    intro i o hi ho
    have hil : i < l.length := by omega
    have hp := psum_drop l i hil
    obtain ⟨a0, a1, a2, a3⟩ := h i hil
    have hj : EvX (fun r : List Int × Int => r.1.length = o.length + psum (l.drop i)) (fun k => serinetteref18_Pack.j2 k l o (i : Int) false) := by
      have go : ∀ b : Int, EvX (fun r : List Int × Int => r.1.length = o.length + psum (l.drop i)) (fun k => if o.length < 140737488355328 then ((some (o ++ [b] : List Int)).bind fun y => ((serinetteref18_Number.f k (l[i].f1.length : Int) 3).bind fun t => (if y.length + t.length < 140737488355328 then ((some (y ++ t : List Int)).bind fun z => (if z.length + l[i].f1.length < 140737488355328 then (serinetteref18_Pack.l1 k l (z ++ l[i].f1) (wrap64 ((i : Int) + 1))) else none)) else none))) else none) := by
        intro b
        refine xT (by omega) (xB (Q' := fun r => r = o ++ [b]) (xNow rfl) (fun y hy => ?_))
        subst hy
        refine xB (number_ev _) (fun t ht => ?_)
        refine xT (by simp only [List.length_append, List.length_cons, List.length_nil]; omega) (xB (Q' := fun r => r = (o ++ [b]) ++ t) (xNow rfl) (fun z hz => ?_))
        subst hz
        refine xT (by simp only [List.length_append, List.length_cons, List.length_nil]; omega) ?_
        rw [wr ((i : Int) + 1) (by omega)]
        refine xMono (ih (i + 1) _ (by omega) (by simp only [List.length_append, List.length_cons, List.length_nil]; omega)) (fun r hr => ?_)
        simp only [List.length_append, List.length_cons, List.length_nil] at hr
        omega
      refine xStep (fun k => serinetteref18_Pack.j2.eq_2 ..) (xF (by simp) (xT (by omega) (xT (by omega) ?_)))
      rw [rdT_nat l i hil]
      exact xIte (fun _ => go _) (fun _ => go _)
    refine xStep (fun k => serinetteref18_Pack.l1.eq_2 ..) (xT (by omega) (xT (by omega) ?_))
    rw [rdT_nat l i hil]
    refine xIte (fun c => ?_) (fun c => ?_)
    · have := a3.1 c
      exact xF (by omega) hj
    · have : ((i : Int) == 0) = false := by
        rw [beq_eq_false_iff_ne]
        intro e
        exact c (a3.2 (by omega))
      rw [this]
      exact hj
theorem pack_l0 (l : List S57) (h : blocksOk l) (hn : l.length ≤ 10) (hs : psum l ≤ 1000000) (d : Nat) : ∀ (i : Nat), i + d = l.length →
    EvX (fun r : List Int × Int => r.1.length = 4 + psum l) (fun k => serinetteref18_Pack.l0 k l (i : Int)) := by
  induction d with
  | zero =>
    intro i hi
    refine xStep (fun k => serinetteref18_Pack.l0.eq_2 ..) (xF (by omega) ?_)
    have := pack_l1 l h hn _ 0 [102, 76, 97, 67] (Nat.zero_add _) (by rw [List.drop_zero]; simp only [List.length_cons, List.length_nil]; omega)
    rw [List.drop_zero] at this
    exact this
  | succ d ih =>
    intro i hi
    have hil : i < l.length := by omega
    obtain ⟨a0, a1, a2, a3⟩ := h i hil
    refine xStep (fun k => serinetteref18_Pack.l0.eq_2 ..) (xT (by omega) (xT (by omega) ?_))
    rw [rdT_nat l i hil]
    refine xB (Q' := fun r => r = 0) (xEv (odd_ev _ _ ⟨a0, a1⟩ (by omega)) rfl) (fun e he => xT he ?_)
    rw [wr ((i : Int) + 1) (by omega)]
    exact ih (i + 1) (by omega)
theorem pack_ev (l : List S57) (h : blocksOk l) (h1 : 1 ≤ l.length) (hn : l.length ≤ 10) (hs : psum l ≤ 1000000) : EvX (fun r : List Int × Int => r.1.length = 4 + psum l) (fun k => serinetteref18_Pack.f k l) := by
  unfold serinetteref18_Pack.f
  exact xF (by omega) (pack_l0 l h hn hs _ 0 (Nat.zero_add _))
/-! ### how many places there are -/
def places (n e : Int) : Int := if n > 0 then (n - 1) / e + 1 else 0
theorem places_succ (n e : Int) (hn : 0 ≤ n) (he : 1 ≤ e) : places (n + 1) e = places n e + (if n % e = 0 then 1 else 0) := by
  unfold places
  rw [if_pos (by omega), show n + 1 - 1 = n by omega]
  have hd := Int.mul_ediv_add_emod n e
  have hm0 := Int.emod_nonneg n (show e ≠ 0 by omega)
  have hm1 := Int.emod_lt_of_pos n (show 0 < e by omega)
  by_cases c : n > 0
  · rw [if_pos c]
    by_cases z : n % e = 0
    · rw [if_pos z]
      have : (n - 1) / e = n / e - 1 ∧ (n - 1) % e = e - 1 := by
        rw [Int.ediv_emod_unique (by omega)]
        refine ⟨?_, by omega, by omega⟩
        rw [Int.mul_sub]; omega
      omega
    · rw [if_neg z]
      have : (n - 1) / e = n / e ∧ (n - 1) % e = n % e - 1 := by
        rw [Int.ediv_emod_unique (by omega)]
        exact ⟨by omega, by omega, by omega⟩
      omega
  · obtain rfl : n = 0 := by omega
    simp
theorem places_rng (n e : Int) (hn : 0 ≤ n) (he : 1 ≤ e) : 0 ≤ places n e ∧ places n e ≤ n := by
  unfold places
  split
  · have h1 := Int.ediv_nonneg (show 0 ≤ n - 1 by omega) (show 0 ≤ e by omega)
    have h2 := Int.ediv_le_self (a := n - 1) e (by omega)
    omega
  · omega
end Go.Proofs.Ytdacblackoaphaa.FBoundFrames
