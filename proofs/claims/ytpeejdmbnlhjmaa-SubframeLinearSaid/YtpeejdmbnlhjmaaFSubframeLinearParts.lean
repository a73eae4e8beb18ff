import Derived.Test.YtpeejdmbnlhjmaaPSubframeLinearx7
import Derived.Test.YtpeejdmbnlhjmaaLEv
import Derived.Test.YtpeejdmbnlhjmaaFSubframeLinearOdd2
namespace Go.Proofs.Ytpeejdmbnlhjmaa.FSubframeLinear
open Go.RowKit Go.Proofs.YtpeejdmbnlhjmaaW.PrintWords Go.Proofs.YtpeejdmbnlhjmaaW.PrintLast Go.Proofs.Ytpeejdmbnlhjmaa.PSubframeLinear Go.Proofs.Ytpeejdmbnlhjmaa.L
set_option linter.unusedVariables false
set_option linter.unusedSimpArgs false
/-- How many bits a number has: always told. -/
theorem in_some (a b : Int) : ∃ r, pcm_In.f a b = some r := by
  unfold pcm_In.f
  by_cases c1 : b < 1
  · exact ⟨_, if_pos c1⟩
  rw [if_neg c1]
  by_cases c2 : b > 62
  · exact ⟨_, if_pos c2⟩
  rw [if_neg c2, wr _ (by omega), if_pos (by omega)]
  split
  · exact ⟨_, rfl⟩
  · exact ⟨_, rfl⟩
theorem size_some (a b : Int) : ∃ r, rice_Size.f a b = some r := by
  unfold rice_Size.f rice_Near.f rice_held.f rice_Fold.f
  have h : ∀ q : Bool, ∃ r, ((some q : Option Bool).bind fun t131 => (if t131 = true then ((some (mx 0 (mn b 30))).bind fun t132 => ((some (Go.bits .xor .u64 (IntKind.u64.wrap ((IntKind.u64.wrap (a)) * 2)) (IntKind.u64.wrap (a / 9223372036854775808)))).bind fun t133 => (if 0 ≤ t132 then (some (wrap64 ((wrap64 ((wrap64 (shr .u64 t133 t132)) + 1)) + t132))) else (none)))) else (some (-1)))) = some r := by
    intro q
    simp only [Option.bind_some]
    cases q
    · exact ⟨_, rfl⟩
    · rw [if_pos rfl, if_pos (by unfold mx; omega)]
      exact ⟨_, rfl⟩
  by_cases c : a ≥ -8589934592
  · rw [if_pos c]
    exact h _
  · rw [if_neg c]
    exact h _
theorem not_far (l : List Int) (h : l.any H.farP = false) : ∀ x ∈ l, -8589934592 ≤ x ∧ x < 8589934592 := by
  intro x hx
  have h1 : ¬ H.farP x = true := fun q => by
    have : l.any H.farP = true := List.any_eq_true.mpr ⟨x, hx, q⟩
    rw [h] at this
    cases this
  unfold H.farP H.nearP at h1
  simp at h1
  omega
theorem near_in (x : Int) (h : -8589934592 ≤ x ∧ x < 8589934592) : pcm_In.f x 34 = some true := by
  refine in_ev x 34 (by decide) ?_
  have : (2 : Int) ^ ((34 : Int) - 1).toNat = 8589934592 := by decide
  unfold inD
  rw [this]
  exact h
theorem width_loop (l : List Int) (hl : l.length ≤ 1000000) (hf : ∀ x ∈ l, -8589934592 ≤ x ∧ x < 8589934592) (n : Nat) : ∀ (i : Nat) (w : Int), i + n = l.length → 0 ≤ w ∧ w ≤ 34 → ∃ r, Ev (fun k => cost_Width.l0 k w l (l.length : Int) (i : Int)) r := by
  induction n with
  | zero =>
    intro i w hi hw
    refine ⟨w, Ev.step (fun k => cost_Width.l0.eq_2 ..) ?_⟩
    exact evF (by omega) (Ev.now _)
  | succ n ih =>
    intro i w hi hw
    have hlt : i < l.length := by omega
    have hx := hf l[i] (List.getElem_mem hlt)
    have inner : ∀ (m : Nat) (w : Int), 0 ≤ w → w + m = 34 → ∃ r, Ev (fun k => cost_Width.l1 k w l[i] l (l.length : Int) (i : Int)) r := by
      intro m
      induction m with
      | zero =>
        intro w h0 hm
        obtain rfl : w = 34 := by omega
        obtain ⟨r, hr⟩ := ih (i + 1) 34 (by omega) (by omega)
        refine ⟨r, Ev.step (fun k => cost_Width.l1.eq_2 ..) ?_⟩
        rw [show wrap64 ((i : Int) + 1) = ((i + 1 : Nat) : Int) by rw [wr _ (by omega)]; omega]
        by_cases c : l[i] = 0
        · exact evT c hr
        · refine evF c ?_
          refine evC (near_in _ hx) ?_
          exact evT rfl hr
      | succ m ihm =>
        intro w h0 hm
        obtain ⟨r, hr⟩ := ih (i + 1) w (by omega) (by omega)
        have e : wrap64 ((i : Int) + 1) = ((i + 1 : Nat) : Int) := by rw [wr _ (by omega)]; omega
        by_cases c : l[i] = 0
        · refine ⟨r, Ev.step (fun k => cost_Width.l1.eq_2 ..) ?_⟩
          rw [e]
          exact evT c hr
        · obtain ⟨b, hb⟩ := in_some l[i] w
          cases b
          · obtain ⟨q, hq⟩ := ihm (w + 1) (by omega) (by omega)
            refine ⟨q, Ev.step (fun k => cost_Width.l1.eq_2 ..) ?_⟩
            refine evF c ?_
            refine evC hb ?_
            refine evF (by decide) ?_
            rw [wr _ (by omega)]
            exact hq
          · refine ⟨r, Ev.step (fun k => cost_Width.l1.eq_2 ..) ?_⟩
            rw [e]
            refine evF c ?_
            refine evC hb ?_
            exact evT rfl hr
    obtain ⟨r, hr⟩ := inner (34 - w).toNat w hw.1 (by omega)
    refine ⟨r, Ev.step (fun k => cost_Width.l0.eq_2 ..) ?_⟩
    refine evT (by omega) ?_
    refine evT (by omega) ?_
    refine evT (by omega) ?_
    rw [rd_nat l i hlt]
    exact hr
theorem width_some (l : List Int) (hl : l.length ≤ 1000000) : ∃ r, Ev (fun k => cost_Width.f k l) r := by
  have e : H.slices_ContainsFunc_int_int.f l 2 = some (l.any H.farP) := by
    unfold H.slices_ContainsFunc_int_int.f
    rw [if_pos (by omega), if_neg (by decide), if_pos rfl]
  cases c : l.any H.farP
  · obtain ⟨r, hr⟩ := width_loop l hl (not_far l c) l.length 0 0 (by omega) (by decide)
    refine ⟨r, ?_⟩
    unfold cost_Width.f
    refine evC (e.trans (by rw [c])) ?_
    exact evF (by decide) hr
  · refine ⟨-1, ?_⟩
    unfold cost_Width.f
    refine evC (e.trans (by rw [c])) ?_
    exact evT rfl (Ev.now _)
theorem bitsl_some (l : List Int) (a : Int) (hl : l.length ≤ 1000000) (n : Nat) : ∀ (i : Nat) (s : Int), i + n = l.length → ∃ r, Ev (fun k => cost_Bits.l0 k a s l (l.length : Int) (i : Int)) r := by
  induction n with
  | zero =>
    intro i s hi
    refine ⟨s, Ev.step (fun k => cost_Bits.l0.eq_2 ..) ?_⟩
    exact evF (by omega) (Ev.now _)
  | succ n ih =>
    intro i s hi
    obtain ⟨q, hq⟩ := size_some (rd l (i : Int)) a
    obtain ⟨r, hr⟩ := ih (i + 1) (wrap64 (s + q)) (by omega)
    refine ⟨r, Ev.step (fun k => cost_Bits.l0.eq_2 ..) ?_⟩
    refine evT (by omega) ?_
    refine evT (by omega) ?_
    refine evT (by omega) ?_
    refine evC hq ?_
    rw [show wrap64 ((i : Int) + 1) = ((i + 1 : Nat) : Int) by rw [wr _ (by omega)]; omega]
    exact hr
theorem bits_some (l : List Int) (a : Int) (hl : l.length ≤ 1000000) : ∃ r, Ev (fun k => cost_Bits.f k l a) r := by
  have e : H.slices_ContainsFunc_int_int.f l 2 = some (l.any H.farP) := by
    unfold H.slices_ContainsFunc_int_int.f
    rw [if_pos (by omega), if_neg (by decide), if_pos rfl]
  cases c : l.any H.farP
  · obtain ⟨r, hr⟩ := bitsl_some l a hl l.length 0 0 (by omega)
    refine ⟨r, ?_⟩
    unfold cost_Bits.f
    refine evC (e.trans (by rw [c])) ?_
    exact evF (by decide) hr
  · refine ⟨-1, ?_⟩
    unfold cost_Bits.f
    refine evC (e.trans (by rw [c])) ?_
    exact evT rfl (Ev.now _)
theorem each_some (l : List Int) (a : Int) (b : Bool) (hl : l.length ≤ 1000000) : ∃ r, Ev (fun k => cost_Each.f k l a b) r := by
  obtain ⟨w, hw⟩ := width_some l hl
  obtain ⟨t, ht⟩ := bits_some l a hl
  cases b
  · refine ⟨t, ?_⟩
    unfold cost_Each.f
    refine evB hw ?_
    refine evF (by decide) ?_
    exact evB ht (Ev.now _)
  · by_cases c1 : w < 0
    · refine ⟨-1, ?_⟩
      unfold cost_Each.f
      refine evB hw ?_
      refine evT rfl ?_
      exact evT c1 (Ev.now _)
    by_cases c2 : a < w
    · refine ⟨-1, ?_⟩
      unfold cost_Each.f
      refine evB hw ?_
      refine evT rfl ?_
      refine evF c1 ?_
      exact evT c2 (Ev.now _)
    by_cases c3 : a > 31
    · refine ⟨-1, ?_⟩
      unfold cost_Each.f
      refine evB hw ?_
      refine evT rfl ?_
      refine evF c1 ?_
      refine evF c2 ?_
      exact evT c3 (Ev.now _)
    · refine ⟨wrap64 (5 + (wrap64 (a * (l.length : Int)))), ?_⟩
      unfold cost_Each.f
      refine evB hw ?_
      refine evT rfl ?_
      refine evF c1 ?_
      refine evF c2 ?_
      refine evF c3 ?_
      exact evC rfl (Ev.now _)
theorem shl_small : ∀ n : Fin 16, shl .i64 1 (n.val : Int) = 2 ^ n.val := by decide +kernel
theorem shl_at (d : Int) (h : 0 ≤ d ∧ d ≤ 15) : shl .i64 1 d = ((2 ^ d.toNat : Nat) : Int) := by
  have := shl_small ⟨d.toNat, by omega⟩
  simp only at this
  rw [Int.toNat_of_nonneg h.1] at this
  rw [this]
  norm_cast
theorem pow_small (n : Nat) (h : n ≤ 15) : 2 ^ n ≤ 32768 ∧ 1 ≤ 2 ^ n := by
  have : n = 0 ∨ n = 1 ∨ n = 2 ∨ n = 3 ∨ n = 4 ∨ n = 5 ∨ n = 6 ∨ n = 7 ∨ n = 8 ∨ n = 9 ∨ n = 10 ∨ n = 11 ∨ n = 12 ∨ n = 13 ∨ n = 14 ∨ n = 15 := by omega
  rcases this with rfl | rfl | rfl | rfl | rfl | rfl | rfl | rfl | rfl | rfl | rfl | rfl | rfl | rfl | rfl | rfl <;> decide
/-- Parts that make up a row of so many numbers. -/
def Fit (c : List Int) (n : Int) : Prop := (∀ x ∈ c, 0 ≤ x) ∧ c.sum = n
theorem sum_rep (m : Nat) (s : Int) : (List.replicate m s).sum = m * s := by
  induction m with
  | zero => simp
  | succ m ih => rw [List.replicate_succ, List.sum_cons, ih]; push_cast; rw [Int.add_mul, Int.one_mul, Int.add_comm]
theorem cuts_loop (o s : Int) (m : Nat) (hm : 1 ≤ m ∧ m ≤ 32768) (hs : 0 ≤ s - o) (ho : 0 ≤ o) (hb : s ≤ 1000000) (n : Nat) : ∀ i : Nat, i + n = m → Ev (fun k => parts_Cuts.l0 k o s (List.replicate i s ++ List.replicate n 0) (m : Int) (i : Int)) ((s - o) :: List.replicate (m - 1) s) := by
  induction n with
  | zero =>
    intro i hi
    obtain rfl : i = m := by omega
    refine Ev.step (fun k => parts_Cuts.l0.eq_2 ..) ?_
    refine evF (by omega) ?_
    rw [List.replicate_zero, List.append_nil]
    refine evT (by rw [List.length_replicate]; omega) ?_
    obtain ⟨j, rfl⟩ : ∃ j, i = j + 1 := ⟨i - 1, by omega⟩
    rw [List.replicate_succ]
    refine evR (Ev.now _) ?_
    show (wrap64 (s - o)) :: List.replicate j s = _
    rw [wr _ (by omega), Nat.add_sub_cancel]
  | succ n ih =>
    intro i hi
    refine Ev.step (fun k => parts_Cuts.l0.eq_2 ..) ?_
    refine evT (by omega) ?_
    refine evT (by omega) ?_
    refine evT (by rw [List.length_append, List.length_replicate, List.length_replicate]; omega) ?_
    have e : (List.replicate i s ++ List.replicate (n + 1) 0).set (i : Int).toNat s = List.replicate (i + 1) s ++ List.replicate n 0 := by
      rw [Int.toNat_natCast, List.set_append_right _ _ (by rw [List.length_replicate]; exact Nat.le_refl _), List.length_replicate, Nat.sub_self, List.replicate_succ (n := n), List.set_cons_zero, List.replicate_succ' (n := i), List.append_assoc]
      rfl
    rw [e, show wrap64 ((i : Int) + 1) = ((i + 1 : Nat) : Int) by rw [wr _ (by omega)]; omega]
    exact ih (i + 1) (by omega)
theorem cuts_some (n o a : Int) (hn : 0 ≤ n ∧ n ≤ 100) (ho : 0 ≤ o ∧ o ≤ 32) : ∃ c, Ev (fun k => parts_Cuts.f k n o a) c ∧ (c = [] ∨ Fit c n ∧ c.length ≤ 32768) := by
  unfold parts_Cuts.f
  by_cases c1 : a < 0
  · refine ⟨[], evF (by omega) (evF (by omega) (evT c1 ?_)), Or.inl rfl⟩
    refine Ev.step (fun k => parts_Cuts.j0.eq_2 ..) ?_
    exact evT rfl (Ev.now _)
  by_cases c2 : a > 15
  · refine ⟨[], evF (by omega) (evF (by omega) (evF c1 ?_)), Or.inl rfl⟩
    rw [decide_eq_true c2]
    refine Ev.step (fun k => parts_Cuts.j0.eq_2 ..) ?_
    exact evT rfl (Ev.now _)
  have hp := pow_small a.toNat (by omega)
  have hS : shr .i64 (wrap64 (n + o)) a = (n + o) / 2 ^ a.toNat := by rw [shr_eq _ _ (by omega), wr _ (by omega)]
  by_cases c3 : shl .i64 ((n + o) / 2 ^ a.toNat) a = n + o
  · by_cases c4 : (n + o) / 2 ^ a.toNat ≤ o
    · refine ⟨[], evF (by omega) (evF (by omega) (evF c1 ?_)), Or.inl rfl⟩
      rw [decide_eq_false c2]
      refine Ev.step (fun k => parts_Cuts.j0.eq_2 ..) ?_
      refine evF (by decide) ?_
      refine evT (by omega) ?_
      refine evT (by rw [hS, c3, wr _ (by omega)]) ?_
      rw [hS, decide_eq_true c4]
      refine Ev.step (fun k => parts_Cuts.j1.eq_2 ..) ?_
      exact evT rfl (Ev.now _)
    · have hd0 : 0 ≤ (n + o) / 2 ^ a.toNat := Int.ediv_nonneg (by omega) (Int.le_of_lt (Int.pow_pos (by decide)))
      have hd1 : (n + o) / 2 ^ a.toNat ≤ n + o := Int.ediv_le_self _ (by omega)
      obtain ⟨m, hm⟩ : ∃ m : Nat, 2 ^ a.toNat = m := ⟨_, rfl⟩
      have e2 : (2 : Int) ^ a.toNat = (m : Int) := by rw [← hm]; norm_cast
      rw [e2] at hd0 hd1 c3 c4 hS
      rw [hm] at hp
      obtain ⟨s, hq⟩ : ∃ s, (n + o) / (m : Int) = s := ⟨_, rfl⟩
      rw [hq] at hd0 hd1 c3 c4 hS
      have hmul : s * (m : Int) = n + o := by
        have : shl .i64 s a = wrap64 (s * (m : Int)) := by
          unfold shl
          rw [Nat.min_eq_left (by have : IntKind.i64.bits = 64 := rfl; omega), e2]
          rw [IntKind.wrap_i64]
          unfold wrap64
          generalize s * (m : Int) = q
          omega
        rw [this, wr] at c3
        · exact c3
        · have h1 : s * (m : Int) ≤ 132 * 32768 := Int.mul_le_mul (by omega) (by omega) (by omega) (by decide)
          have h2 : 0 ≤ s * (m : Int) := Int.mul_nonneg hd0 (by omega)
          omega
      refine ⟨(s - o) :: List.replicate (m - 1) s, evF (by omega) (evF (by omega) (evF c1 ?_)), Or.inr ⟨⟨?_, ?_⟩, ?_⟩⟩
      · rw [decide_eq_false c2]
        refine Ev.step (fun k => parts_Cuts.j0.eq_2 ..) ?_
        refine evF (by decide) ?_
        refine evT (by omega) ?_
        refine evT (by rw [hS, c3, wr _ (by omega)]) ?_
        rw [hS, decide_eq_false c4]
        refine Ev.step (fun k => parts_Cuts.j1.eq_2 ..) ?_
        refine evF (by decide) ?_
        refine evT (by omega) ?_
        rw [shl_at a (by omega), hm]
        refine evT (by omega) ?_
        refine evT (by rw [Int.toNat_natCast]; omega) ?_
        refine evC rfl ?_
        rw [Int.toNat_natCast, List.length_replicate]
        exact cuts_loop o s m (by omega) (by omega) ho.1 (by omega) m 0 (by omega)
      · intro x hx
        rcases List.mem_cons.mp hx with rfl | hx
        · omega
        · rw [(List.mem_replicate.mp hx).2]; exact hd0
      · rw [List.sum_cons, sum_rep]
        obtain ⟨j, rfl⟩ : ∃ j, m = j + 1 := ⟨m - 1, by omega⟩
        rw [Nat.add_sub_cancel]
        push_cast at hmul
        rw [Int.mul_add, Int.mul_one, Int.mul_comm s] at hmul
        omega
      · rw [List.length_cons, List.length_replicate]; omega
  · refine ⟨[], evF (by omega) (evF (by omega) (evF c1 ?_)), Or.inl rfl⟩
    rw [decide_eq_false c2]
    refine Ev.step (fun k => parts_Cuts.j0.eq_2 ..) ?_
    refine evF (by decide) ?_
    refine evT (by omega) ?_
    refine evF (by rw [hS, wr (n + o) (by omega)]; exact c3) ?_
    refine Ev.step (fun k => parts_Cuts.j1.eq_2 ..) ?_
    exact evT rfl (Ev.now _)
theorem sum_drop (c : List Int) (i : Nat) (h : i < c.length) : (c.drop i).sum = c[i] + (c.drop (i + 1)).sum := by
  rw [List.drop_eq_getElem_cons h, List.sum_cons]
theorem sum_nonneg : ∀ c : List Int, (∀ x ∈ c, 0 ≤ x) → 0 ≤ c.sum
  | [], _ => by simp
  | a :: c, h => by
    have := sum_nonneg c fun x hx => h x (List.mem_cons_of_mem _ hx)
    have := h a (List.mem_cons_self ..)
    rw [List.sum_cons]
    omega
theorem parts_loop (c : List Int) (P : List S172) (m z W' : Int) (W : Bool) (O : Int) (hc : ∀ x ∈ c, 0 ≤ x) (hcl : c.length ≤ 32768) (hP : c.length ≤ P.length) (n : Nat) : ∀ (i : Nat) (l : List Int) (s : Int), i + n = c.length → (c.drop i).sum = l.length → l.length ≤ 1000 → ∃ r, Ev (fun k => parts_Bits.l0 k l m z s c (c.length : Int) (i : Int) W O P) r := by
  induction n with
  | zero =>
    intro i l s hi hs hl
    refine ⟨s, Ev.step (fun k => parts_Bits.l0.eq_2 ..) ?_⟩
    exact evF (by omega) (Ev.now _)
  | succ n ih =>
    intro i l s hi hs hl
    have hlt : i < c.length := by omega
    have h0 := hc c[i] (List.getElem_mem hlt)
    rw [sum_drop c i hlt] at hs
    have hrest := sum_nonneg (c.drop (i + 1)) fun x hx => hc x (List.mem_of_mem_drop hx)
    have hrd := rd_nat c i hlt
    generalize c[i] = y at *
    have hy : y ≤ (l.length : Int) := by omega
    obtain ⟨j, rfl⟩ : ∃ j : Nat, y = (j : Int) := ⟨y.toNat, by omega⟩
    obtain ⟨t, ht⟩ := each_some (l.take j) (rd_T172 P (i : Int)).f0 (rd_T172 P (i : Int)).f1 (by rw [List.length_take]; omega)
    obtain ⟨r, hr⟩ := ih (i + 1) (l.drop j) (wrap64 (s + (wrap64 (z + t)))) (by omega) (by rw [List.length_drop]; omega) (by rw [List.length_drop]; omega)
    have e : wrap64 ((i : Int) + 1) = ((i + 1 : Nat) : Int) := by rw [wr _ (by omega)]; omega
    have start : ∀ q, Ev (fun k => if t < 0 then (some (-1)) else (if ((rd_T172 P (i : Int)).f1 = true) then (parts_Bits.l0 k (l.drop j) m z (wrap64 (s + (wrap64 (z + t)))) c (c.length : Int) (wrap64 ((i : Int) + 1)) W O P) else (if ((rd_T172 P (i : Int)).f0) < 0 then (some (-1)) else (if ((rd_T172 P (i : Int)).f0) > m then (some (-1)) else (parts_Bits.l0 k (l.drop j) m z (wrap64 (s + (wrap64 (z + t)))) c (c.length : Int) (wrap64 ((i : Int) + 1)) W O P))))) q →
        Ev (fun k => parts_Bits.l0 k l m z s c (c.length : Int) (i : Int) W O P) q := by
      intro q hq
      refine Ev.step (fun k => parts_Bits.l0.eq_2 ..) ?_
      refine evT (by omega) ?_
      refine evT (by omega) ?_
      refine evT (by omega) ?_
      refine evT (by omega) ?_
      rw [hrd]
      refine evT (by omega) ?_
      refine evT hy ?_
      rw [Int.toNat_natCast]
      exact evB ht hq
    rw [e] at start
    by_cases c1 : t < 0
    · exact ⟨-1, start _ (evT c1 (Ev.now _))⟩
    by_cases c2 : (rd_T172 P (i : Int)).f1 = true
    · exact ⟨r, start _ (evF c1 (evT c2 hr))⟩
    by_cases c3 : (rd_T172 P (i : Int)).f0 < 0
    · exact ⟨-1, start _ (evF c1 (evF c2 (evT c3 (Ev.now _))))⟩
    by_cases c4 : (rd_T172 P (i : Int)).f0 > m
    · exact ⟨-1, start _ (evF c1 (evF c2 (evF c3 (evT c4 (Ev.now _)))))⟩
    · exact ⟨r, start _ (evF c1 (evF c2 (evF c3 (evF c4 hr))))⟩
theorem parts_some (l : List Int) (o : Int) (W : Bool) (O : Int) (P : List S172) (hl : l.length ≤ 100) (ho : 0 ≤ o ∧ o ≤ 32) (hP : P.length ≤ 1000) : ∃ r, Ev (fun k => parts_Bits.f k l o W O P) r := by
  obtain ⟨c, hc, hq⟩ := cuts_some (l.length : Int) o O (by omega) ho
  by_cases c0 : (c.length : Int) = 0
  · refine ⟨-1, ?_⟩
    unfold parts_Bits.f
    refine evB hc ?_
    refine evT c0 ?_
    refine Ev.step (fun k => parts_Bits.j0.eq_2 ..) ?_
    exact evT rfl (Ev.now _)
  · have hf : Fit c (l.length : Int) ∧ c.length ≤ 32768 := by
      rcases hq with rfl | h
      · simp at c0
      · exact h
    by_cases c1 : (c.length : Int) = (P.length : Int)
    · have ht : ∃ bt : Int × Int, parts_top.f W = some bt := by
        unfold parts_top.f
        cases W
        · exact ⟨_, if_neg (by decide)⟩
        · exact ⟨_, if_pos rfl⟩
      obtain ⟨bt, hbt⟩ := ht
      obtain ⟨r, hr⟩ := parts_loop c P bt.1 bt.2 0 W O hf.1.1 hf.2 (by omega) c.length 0 l 6 (by omega) hf.1.2 (by omega)
      refine ⟨r, ?_⟩
      unfold parts_Bits.f
      refine evB hc ?_
      refine evF c0 ?_
      rw [show ((c.length : Int) != (P.length : Int)) = false by rw [c1]; exact bne_self_eq_false _]
      refine Ev.step (fun k => parts_Bits.j0.eq_2 ..) ?_
      refine evF (by decide) ?_
      exact evC hbt hr
    · refine ⟨-1, ?_⟩
      unfold parts_Bits.f
      refine evB hc ?_
      refine evF c0 ?_
      rw [show ((c.length : Int) != (P.length : Int)) = true from bne_iff_ne.mpr c1]
      refine Ev.step (fun k => parts_Bits.j0.eq_2 ..) ?_
      exact evT rfl (Ev.now _)
end Go.Proofs.Ytpeejdmbnlhjmaa.FSubframeLinear
