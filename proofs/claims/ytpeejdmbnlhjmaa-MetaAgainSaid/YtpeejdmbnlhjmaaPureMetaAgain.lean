/- The statement MetaAgain: what is put is read again, whatever follows; cut off it is too short; and what is read is, put again, what was read. For up to ten blocks of up to 200 bytes, a tail of up to 20, and up to 600 bytes. -/
import Derived.Test.YtpeejdmbnlhjmaaPMetaAgainx3
import Derived.Test.YtpeejdmbnlhjmaaLEv
import Derived.Test.YtpeejdmbnlhjmaaFMetaAgainSame
import Derived.Test.YtpeejdmbnlhjmaaFMetaAgainMeta
namespace Go.Proofs.Ytpeejdmbnlhjmaa.Pure
open Go.RowKit Go.Proofs.YtpeejdmbnlhjmaaW.PrintWords Go.Proofs.YtpeejdmbnlhjmaaW.PrintLast Go.Proofs.Ytpeejdmbnlhjmaa.PMetaAgain Go.Proofs.Ytpeejdmbnlhjmaa.H Go.Proofs.Ytpeejdmbnlhjmaa.L Go.Proofs.Ytpeejdmbnlhjmaa.FMetaAgain
set_option linter.unusedVariables false
set_option linter.unusedSimpArgs false
theorem blk_cons' (m : S24) (r : List S24) : blk (m :: r) = (m.f0 + (if r.length = 0 then 128 else 0)) :: ((m.f1.length : Int) / 65536) % 256 :: ((m.f1.length : Int) / 256) % 256 :: ((m.f1.length : Int)) % 256 :: (m.f1 ++ blk r) := by
  rw [blk]
theorem len3 (n : Int) (h : 0 ≤ n ∧ n ≤ 16777215) : n / 65536 % 256 * 65536 + n / 256 % 256 * 256 + n % 256 = n := by omega
theorem unp_blk (tail : List Int) : ∀ (l : List S24) (n : Nat) (acc : List S24) (a : Int), l ≠ [] → (∀ m ∈ l, oddE m = 0) → okK ((acc.length : Int) == 0) l = true → l.length ≤ n →
    unp n (blk l ++ tail) acc a = (acc ++ l, a + (blk l).length, 0)
  | [], _, _, _, h, _, _, _ => absurd rfl h
  | m :: r, 0, _, _, _, _, _, h => by simp at h
  | m :: r, n + 1, acc, a, _, ho, hk, hn => by
    have hz := oddE_zero (ho m (by simp))
    rw [okK] at hk
    have hk1 : ¬ ((m.f0 == 0) != ((acc.length : Int) == 0)) = true := by
      intro h
      rw [if_pos h] at hk
      cases hk
    rw [if_neg hk1] at hk
    rw [blk_cons', List.cons_append, List.cons_append, List.cons_append, List.cons_append, unp, len3 _ (by omega)]
    have hb : (m.f0 + (if r.length = 0 then 128 else 0)) % 128 = m.f0 := by split <;> omega
    rw [hb, if_neg (by omega), if_neg hk1, if_neg (by simp only [List.length_append]; omega), Int.toNat_natCast, List.append_assoc, List.take_left' rfl, List.drop_left' rfl]
    match r, ho, hk, hn with
    | [], _, _, _ =>
      rw [if_neg (by simp only [List.length_nil, if_true]; omega)]
      simp only [blk, List.append_nil, List.length_cons, Prod.mk.injEq]
      exact ⟨trivial, by omega, trivial⟩
    | q :: r, ho, hk, hn =>
      rw [if_pos (by rw [if_neg (by simp)]; omega)]
      rw [unp_blk tail (q :: r) n _ _ (by simp) (fun x hx => ho x (List.mem_cons_of_mem _ hx)) (by rw [beq_false_of_ne (by simp only [List.length_append, List.length_singleton]; omega)]; exact hk) (by simp only [List.length_cons] at hn ⊢; omega)]
      simp only [Prod.mk.injEq, List.length_cons, List.length_append, List.append_assoc, List.singleton_append]
      exact ⟨trivial, by omega, trivial⟩
theorem unp_cut : ∀ (l : List S24) (n : Nat) (acc : List S24) (a : Int) (c : Nat), (∀ m ∈ l, oddE m = 0) → okK ((acc.length : Int) == 0) l = true → c < (blk l).length →
    (unp n ((blk l).take c) acc a).2.2 = 2
  | _, 0, _, _, _, _, _, _ => rfl
  | [], n + 1, acc, a, c, _, _, hc => by simp [blk] at hc
  | m :: r, n + 1, acc, a, c, ho, hk, hc => by
    have hz := oddE_zero (ho m (by simp))
    rw [okK] at hk
    have hk1 : ¬ ((m.f0 == 0) != ((acc.length : Int) == 0)) = true := by
      intro h
      rw [if_pos h] at hk
      cases hk
    rw [if_neg hk1] at hk
    by_cases h4 : c < 4
    · rw [unp_short _ _ _ _ (by rw [List.length_take]; omega)]
    obtain ⟨c, rfl⟩ : ∃ d, c = d + 4 := ⟨c - 4, by omega⟩
    rw [blk_cons'] at hc ⊢
    simp only [List.length_cons, List.length_append] at hc
    rw [List.take_succ_cons, List.take_succ_cons, List.take_succ_cons, List.take_succ_cons, unp, len3 _ (by omega)]
    have hb : (m.f0 + (if r.length = 0 then 128 else 0)) % 128 = m.f0 := by split <;> omega
    rw [hb, if_neg (by omega), if_neg hk1]
    by_cases h5 : c < m.f1.length
    · rw [if_pos (by rw [List.length_take]; simp only [List.length_append]; omega)]
    rw [if_neg (by rw [List.length_take]; simp only [List.length_append]; omega), Int.toNat_natCast]
    match r, ho, hk, hc with
    | [], _, _, hc =>
      simp [blk] at hc
      omega
    | q :: r, ho, hk, hc =>
      rw [if_pos (by rw [if_neg (by simp)]; omega)]
      rw [show ((m.f1 ++ blk (q :: r)).take c).drop m.f1.length = (blk (q :: r)).take (c - m.f1.length) by rw [List.drop_take, List.drop_left' rfl]]
      exact unp_cut (q :: r) n _ _ _ (fun x hx => ho x (List.mem_cons_of_mem _ hx)) (by rw [beq_false_of_ne (by simp only [List.length_append, List.length_singleton]; omega)]; exact hk) (by omega)
theorem unp_sound : ∀ (n : Nat) (s : List Int) (acc : List S24) (a : Int) (u : List S24) (e : Int), (∀ x ∈ s, 0 ≤ x ∧ x ≤ 255) → unp n s acc a = (u, e, 0) →
    ∃ l rest, l ≠ [] ∧ u = acc ++ l ∧ s = blk l ++ rest ∧ e = a + (blk l).length ∧ okK ((acc.length : Int) == 0) l = true ∧ ∀ m ∈ l, oddE m = 0
  | 0, _, _, _, _, _, _, h => by simp [unp] at h
  | n + 1, s, acc, a, u, e, hs, h => by
    by_cases h4 : s.length < 4
    · rw [unp_short _ _ _ _ h4] at h
      simp at h
    match s, h4, hs, h with
    | [], h, _, _ => exact absurd (by decide) h
    | [_], h, _, _ => exact absurd (by simp) h
    | [_, _], h, _, _ => exact absurd (by simp) h
    | [_, _, _], h, _, _ => exact absurd (by simp) h
    | b0 :: b1 :: b2 :: b3 :: t, _, hs, h =>
      have g0 := hs b0 (by simp)
      have g1 := hs b1 (by simp)
      have g2 := hs b2 (by simp)
      have g3 := hs b3 (by simp)
      have gt : ∀ x ∈ t, 0 ≤ x ∧ x ≤ 255 := fun x hx => hs x (by simp [hx])
      rw [unp] at h
      obtain ⟨z, hz⟩ : ∃ z, b1 * 65536 + b2 * 256 + b3 = z := ⟨_, rfl⟩
      rw [hz] at h
      split at h
      · simp at h
      rename_i c1
      split at h
      · simp at h
      rename_i c2
      split at h
      · simp at h
      rename_i c3
      have hl : ((t.take z.toNat).length : Int) = z := by rw [List.length_take]; omega
      have ho : oddE ⟨b0 % 128, t.take z.toNat⟩ = 0 := by
        unfold oddE
        rw [if_neg (by simp only; omega), if_neg (by simp only; omega)]
      have hb : ∀ r : List S24, (r.length = 0 ↔ ¬ b0 < 128) → blk (⟨b0 % 128, t.take z.toNat⟩ :: r) = b0 :: b1 :: b2 :: b3 :: (t.take z.toNat ++ blk r) := by
        intro r hr
        rw [blk_cons']
        simp only [hl]
        have e0 : b0 % 128 + (if r.length = 0 then 128 else 0) = b0 := by
          by_cases hx : r.length = 0
          · rw [if_pos hx]
            have := hr.1 hx
            omega
          · rw [if_neg hx]
            have : b0 < 128 := by
              rcases Decidable.em (b0 < 128) with h | h
              · exact h
              · exact absurd (hr.2 h) hx
            omega
        rw [e0, show z / 65536 % 256 = b1 by omega, show z / 256 % 256 = b2 by omega, show z % 256 = b3 by omega]
      split at h
      · rename_i c4
        obtain ⟨l, rest, h1, h2, h3, h5, h6, h7⟩ := unp_sound n _ _ _ u e (fun x hx => gt x (List.mem_of_mem_drop hx)) h
        have hr := hb l ⟨fun hx => absurd (List.eq_nil_of_length_eq_zero hx) h1, fun hx => absurd c4 hx⟩
        refine ⟨⟨b0 % 128, t.take z.toNat⟩ :: l, rest, by simp, by rw [h2]; simp, ?_, ?_, ?_, ?_⟩
        · rw [hr]
          simp only [List.cons_append, List.append_assoc]
          rw [← h3, List.take_append_drop]
        · rw [hr, h5]
          simp only [List.length_cons, List.length_append]
          omega
        · rw [okK, if_neg c2]
          rw [beq_false_of_ne (by simp only [List.length_append, List.length_singleton]; omega)] at h6
          exact h6
        · intro m hm
          rcases List.mem_cons.1 hm with rfl | hm
          · exact ho
          · exact h7 m hm
      · rename_i c4
        have hr := hb [] ⟨fun _ => c4, fun _ => rfl⟩
        simp only [Prod.mk.injEq] at h
        refine ⟨[⟨b0 % 128, t.take z.toNat⟩], t.drop z.toNat, by simp, h.1.symm, ?_, ?_, ?_, ?_⟩
        · rw [hr]
          simp only [blk, List.append_nil, List.cons_append]
          rw [List.take_append_drop]
        · rw [hr, ← h.2.1]
          simp only [blk, List.append_nil, List.length_cons]
          omega
        · rw [okK, if_neg c2]
          rfl
        · intro m hm
          rw [List.mem_singleton.1 hm]
          exact ho
theorem unp_bad : ∀ (n : Nat) (s : List Int) (acc : List S24) (a : Int), (unp n s acc a).2.2 ≠ 0 → (unp n s acc a).1 = [] ∧ (unp n s acc a).2.1 = 0
  | 0, _, _, _, _ => ⟨rfl, rfl⟩
  | n + 1, s, acc, a, h => by
    by_cases h4 : s.length < 4
    · rw [unp_short _ _ _ _ h4]
      exact ⟨rfl, rfl⟩
    match s, h4, h with
    | [], h, _ => exact absurd (by decide) h
    | [_], h, _ => exact absurd (by simp) h
    | [_, _], h, _ => exact absurd (by simp) h
    | [_, _, _], h, _ => exact absurd (by simp) h
    | b0 :: b1 :: b2 :: b3 :: t, _, h =>
      rw [unp] at h ⊢
      split at h <;> rename_i c1
      · rw [if_pos c1]; exact ⟨rfl, rfl⟩
      rw [if_neg c1]
      split at h <;> rename_i c2
      · rw [if_pos c2]; exact ⟨rfl, rfl⟩
      rw [if_neg c2]
      split at h <;> rename_i c3
      · rw [if_pos c3]; exact ⟨rfl, rfl⟩
      rw [if_neg c3]
      split at h <;> rename_i c4
      · rw [if_pos c4]; exact unp_bad n _ _ _ h
      · exact absurd rfl h
theorem unpackP_bad (l : List Int) (h : (unpackP l).2.2 ≠ 0) : (unpackP l).1 = [] ∧ (unpackP l).2.1 = 0 := by
  unfold unpackP at h ⊢
  split at h <;> rename_i c1
  · rw [if_pos c1]; exact ⟨rfl, rfl⟩
  rw [if_neg c1]
  split at h <;> rename_i c2
  · rw [if_pos c2]; exact unp_bad _ _ _ _ h
  · rw [if_neg c2]; exact ⟨rfl, rfl⟩
theorem packP_of (l : List S24) (h : (packP l).2 = 0) : l ≠ [] ∧ packP l = ([102, 76, 97, 67] ++ blk l, 0) ∧ (∀ m ∈ l, oddE m = 0) ∧ okK true l = true := by
  unfold packP packL at h ⊢
  split at h <;> rename_i c1
  · cases h
  rw [if_neg c1]
  split at h <;> rename_i c2
  · rw [if_pos c2]
    split at h <;> rename_i c3
    · rw [if_pos c3]
      exact ⟨fun e => c1 (by rw [e]; rfl), rfl, oddL_zero c2, c3⟩
    · cases h
  · exact absurd h c2
theorem packP_put (l : List S24) (h0 : l ≠ []) (h1 : ∀ m ∈ l, oddE m = 0) (h2 : okK true l = true) : packP l = ([102, 76, 97, 67] ++ blk l, 0) := by
  unfold packP packL
  rw [if_neg (fun e => h0 (List.eq_nil_of_length_eq_zero e)), if_pos (oddL_of h1), if_pos h2]
theorem blk_long : ∀ (l : List S24), l ≠ [] → 4 * l.length ≤ (blk l).length
  | [], h => absurd rfl h
  | [m], _ => by simp [blk]
  | m :: q :: r, _ => by
    have := blk_long (q :: r) (by simp)
    rw [blk_cons']
    simp only [List.length_cons, List.length_append] at this ⊢
    omega
theorem read_put (l : List S24) (tail : List Int) (h0 : l ≠ []) (h1 : ∀ m ∈ l, oddE m = 0) (h2 : okK true l = true) : unpackP (([102, 76, 97, 67] ++ blk l) ++ tail) = (l, (([102, 76, 97, 67] ++ blk l).length : Int), 0) := by
  have hl := blk_long l h0
  unfold unpackP
  rw [if_neg (by simp only [List.length_append, List.length_cons]; omega), if_pos (by simp), show List.drop 4 (([102, 76, 97, 67] ++ blk l) ++ tail) = blk l ++ tail from rfl, unp_blk tail l _ [] 4 h0 h1 h2 (by simp only [List.length_append, List.length_cons]; omega)]
  simp only [List.nil_append, Prod.mk.injEq, List.length_append, List.length_cons, List.length_nil]
  exact ⟨trivial, by omega, trivial⟩
theorem read_cut (l : List S24) (c : Nat) (h1 : ∀ m ∈ l, oddE m = 0) (h2 : okK true l = true) (hc : c < ([102, 76, 97, 67] ++ blk l).length) : (unpackP (([102, 76, 97, 67] ++ blk l).take c)).2.2 = 2 := by
  unfold unpackP
  by_cases h : c < 4
  · rw [if_pos (by rw [List.length_take]; omega)]
  obtain ⟨c, rfl⟩ : ∃ d, c = d + 4 := ⟨c - 4, by omega⟩
  have e : ([102, 76, 97, 67] ++ blk l).take (c + 4) = [102, 76, 97, 67] ++ (blk l).take c := rfl
  simp only [List.length_append, List.length_cons, List.length_nil] at hc
  rw [e, if_neg (by simp only [List.length_append, List.length_cons]; omega), if_pos (by simp)]
  exact unp_cut l _ [] _ c h1 h2 (by omega)
theorem read_sound (s : List Int) (hs : ∀ x ∈ s, 0 ≤ x ∧ x ≤ 255) (h : (unpackP s).2.2 = 0) : ∃ l rest, l ≠ [] ∧ (unpackP s).1 = l ∧ s = ([102, 76, 97, 67] ++ blk l) ++ rest ∧ (unpackP s).2.1 = (([102, 76, 97, 67] ++ blk l).length : Int) ∧ okK true l = true ∧ ∀ m ∈ l, oddE m = 0 := by
  unfold unpackP at h ⊢
  split at h <;> rename_i c1
  · cases h
  rw [if_neg c1]
  split at h <;> rename_i c2
  · rw [if_pos c2]
    obtain ⟨l, rest, h1, h2, h3, h4, h5, h6⟩ := unp_sound _ _ [] 4 _ _ (fun x hx => hs x (List.mem_of_mem_drop hx)) (show unp (s.length + 1) (s.drop 4) [] 4 = (_, _, 0) from by rw [← h])
    refine ⟨l, rest, h1, h2, ?_, ?_, h5, h6⟩
    · rw [List.append_assoc, ← h3, ← c2, List.take_append_drop]
    · rw [h4]
      simp only [List.length_append, List.length_cons, List.length_nil]
      omega
  · cases h
theorem blk_bytes (l : List S24) (h1 : ∀ m ∈ l, oddE m = 0) (h2 : ∀ m ∈ l, ∀ y ∈ m.f1, 0 ≤ y ∧ y ≤ 255) : ∀ x ∈ blk l, 0 ≤ x ∧ x ≤ 255 := by
  induction l with
  | nil => simp [blk]
  | cons m r ih =>
    have hz := oddE_zero (h1 m (by simp))
    have hm := h2 m (by simp)
    have hr := ih (fun x hx => h1 x (List.mem_cons_of_mem _ hx)) (fun x hx => h2 x (List.mem_cons_of_mem _ hx))
    rw [blk_cons']
    intro x hx
    simp only [List.mem_cons, List.mem_append] at hx
    rcases hx with rfl | rfl | rfl | rfl | hx | hx
    · split <;> omega
    · omega
    · omega
    · omega
    · exact hm x hx
    · exact hr x hx
theorem again_j1 (l2 : List Int) (hl : l2.length ≤ 600) (hb : ∀ x ∈ l2, 0 ≤ x ∧ x ≤ 255) : Ev (fun k => serinettelaw18_MetaAgain.j1 k l2 true) true := by
  refine Ev.step (fun k => serinettelaw18_MetaAgain.j1.eq_2 ..) ?_
  refine evB (unpack_ev l2 (by omega) hb) ?_
  by_cases c : (unpackP l2).2.2 = 0
  · refine evT c ?_
    obtain ⟨l, rest, h1, h2, h3, h4, h5, h6⟩ := read_sound l2 hb c
    have hlen : ([102, 76, 97, 67] ++ blk l).length ≤ l2.length := by rw [h3]; simp only [List.length_append]; omega
    have hlong := blk_long l h1
    have hlen' := hlen
    simp only [List.length_append, List.length_cons, List.length_nil] at hlen'
    rw [h2, h4]
    refine evF (by omega) ?_
    refine evB (pack_ev l (by omega) (by omega)) ?_
    rw [packP_put l h1 h6 h5]
    refine evT rfl ?_
    refine evT rfl ?_
    refine evT (by omega) ?_
    refine evT (by omega) ?_
    refine evB (same_same _ _ (by simp only; omega) ?_) (Ev.now _)
    rw [Int.toNat_natCast, h3, List.take_left' rfl]
  · refine evF c ?_
    obtain ⟨h1, h2⟩ := unpackP_bad l2 c
    rw [h1, h2]
    refine evT rfl ?_
    refine evT rfl ?_
    exact Ev.now _
theorem MetaAgain : serinettelaw18_MetaAgain.Pure := by
  intro l0 l1 l2 a3 hl0 hw0 hl1 hw1 hl2 hw2 hw3
  suffices h : Ev (fun k => serinettelaw18_MetaAgain.f k l0 l1 l2 a3) true by
    obtain ⟨K, h⟩ := h
    exact ⟨K, h K (by omega)⟩
  unfold serinettelaw18_MetaAgain.f
  refine evC (a := true) rfl ?_
  have out : Ev (fun k => serinettelaw18_MetaAgain.j0 k l0 l1 l2 a3 true true) true := by
    refine Ev.step (fun k => serinettelaw18_MetaAgain.j0.eq_2 ..) ?_
    exact evT rfl (Ev.now _)
  obtain ⟨b, h1, h2⟩ := few_ev l0 hl0
  refine evB h1 ?_
  cases b with
  | false => exact evF (by decide) out
  | true =>
    refine evT rfl ?_
    by_cases ct : (l1.length : Int) > 20
    · exact evT ct out
    refine evF ct ?_
    by_cases c : (l2.length : Int) > 600
    · rw [decide_eq_true c]
      exact out
    rw [decide_eq_false c]
    refine Ev.step (fun k => serinettelaw18_MetaAgain.j0.eq_2 ..) ?_
    refine evF (by decide) ?_
    obtain ⟨h3, h4⟩ := h2 rfl
    have h5 := blk_len l0 200 h4
    have h6 : (blk l0).length ≤ 2040 := by
      have : l0.length * (4 + 200) ≤ 10 * 204 := Nat.mul_le_mul h3 (Nat.le_refl _)
      omega
    have hb2 : ∀ x ∈ l2, 0 ≤ x ∧ x ≤ 255 := fun x hx => wf_u8 (hw2 x hx)
    have hb1 : ∀ x ∈ l1, 0 ≤ x ∧ x ≤ 255 := fun x hx => wf_u8 (hw1 x hx)
    have hb0 : ∀ m ∈ l0, ∀ y ∈ m.f1, 0 ≤ y ∧ y ≤ 255 := fun m hm y hy => wf_u8 ((hw0 m hm).2.2 y hy)
    have j1 := again_j1 l2 (by omega) hb2
    refine evB (pack_ev l0 (by omega) (by omega)) ?_
    by_cases ce : (packP l0).2 = 0
    · refine evT ce ?_
      obtain ⟨g1, g2, g3, g4⟩ := packP_of l0 ce
      have hlong := blk_long l0 g1
      have hbb := blk_bytes l0 g3 hb0
      rw [g2]
      have hpl : ([102, 76, 97, 67] ++ blk l0).length = 4 + (blk l0).length := by simp only [List.length_append, List.length_cons, List.length_nil]
      have hpos : 0 < l0.length := by
        rcases Nat.eq_zero_or_pos l0.length with h | h
        · exact absurd (List.eq_nil_of_length_eq_zero h) g1
        · exact h
      have hpb : ∀ x ∈ ([102, 76, 97, 67] ++ blk l0), 0 ≤ x ∧ x ≤ 255 := by
        intro x hx
        rcases List.mem_append.1 hx with hx | hx
        · simp only [List.mem_cons, List.not_mem_nil, or_false] at hx
          omega
        · exact hbb x hx
      have rp := read_put l0 l1 g1 g3 g4
      have rc := fun c hc => read_cut l0 c g3 g4 hc
      generalize [102, 76, 97, 67] ++ blk l0 = p at *
      refine evF (by simp only; omega) ?_
      refine evC rfl ?_
      refine evT (by simp only [List.length_nil]; omega) ?_
      refine evC rfl ?_
      refine evT (by simp only [List.nil_append]; omega) ?_
      rw [List.nil_append]
      refine evB (unpack_ev (p ++ l1) (by rw [List.length_append]; omega) ?_) ?_
      · intro x hx
        rcases List.mem_append.1 hx with hx | hx
        · exact hpb x hx
        · exact hb1 x hx
      rw [rp]
      have ha := wf_u16 hw3
      have hm : 0 ≤ Int.tmod (wrap64 a3) (p.length : Int) ∧ Int.tmod (wrap64 a3) (p.length : Int) < p.length := by
        rw [wr a3 (by omega), tmod_pos _ _ ha.1]
        exact ⟨Int.emod_nonneg _ (by omega), Int.emod_lt_of_pos _ (by omega)⟩
      generalize Int.tmod (wrap64 a3) (p.length : Int) = cut at *
      refine evF (by simp only; omega) ?_
      refine evT hm.1 ?_
      refine evT (by simp only; omega) ?_
      refine evB (unpack_ev (p.take cut.toNat) (by rw [List.length_take]; omega) (fun x hx => hpb x (List.mem_of_mem_take hx))) ?_
      refine evT rfl ?_
      refine evT rfl ?_
      refine evB (metas_ev l0 l0 (by omega) rfl (fun m hm => by have := h4 m hm; omega)) ?_
      refine evT rfl ?_
      refine evT (rc _ (by omega)) ?_
      exact j1
    · exact evF ce j1
end Go.Proofs.Ytpeejdmbnlhjmaa.Pure
