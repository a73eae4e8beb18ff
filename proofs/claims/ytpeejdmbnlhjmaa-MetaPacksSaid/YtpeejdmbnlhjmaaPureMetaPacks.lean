/- The statement MetaPacks: blocks of metadata are put and read as the document says. For up to ten blocks of up to 200 bytes, and up to 600 bytes. -/
import Derived.Test.YtpeejdmbnlhjmaaPMetaPacksx5
import Derived.Test.YtpeejdmbnlhjmaaLEv
import Derived.Test.YtpeejdmbnlhjmaaFMetaPacksSame
import Derived.Test.YtpeejdmbnlhjmaaFMetaPacksMeta
namespace Go.Proofs.Ytpeejdmbnlhjmaa.Pure
open Go.RowKit Go.Proofs.YtpeejdmbnlhjmaaW.PrintWords Go.Proofs.YtpeejdmbnlhjmaaW.PrintLast Go.Proofs.Ytpeejdmbnlhjmaa.PMetaPacks Go.Proofs.Ytpeejdmbnlhjmaa.H Go.Proofs.Ytpeejdmbnlhjmaa.L Go.Proofs.Ytpeejdmbnlhjmaa.FMetaPacks
set_option linter.unusedVariables false
set_option linter.unusedSimpArgs false
theorem rodd_ev (m : S24) : Ev (fun k => serinetteref18_Odd.f k m.f0 m.f1) (oddE m) := by
  unfold serinetteref18_Odd.f oddE
  by_cases h : m.f0 < 0
  · rw [if_pos (Or.inl h)]
    refine evT h ?_
    refine Ev.step (fun k => serinetteref18_Odd.j0.eq_2 ..) ?_
    exact evT rfl (Ev.now _)
  · refine evF h ?_
    refine Ev.step (fun k => serinetteref18_Odd.j0.eq_2 ..) ?_
    by_cases h2 : m.f0 > 126
    · rw [decide_eq_true h2, if_pos (Or.inr (by omega))]
      exact evT rfl (Ev.now _)
    · rw [decide_eq_false h2, if_neg (show ¬ (m.f0 < 0 ∨ m.f0 ≥ 127) by omega)]
      refine evF (by decide) ?_
      exact evI (Ev.now _) (Ev.now _)
theorem number_ev (n : Int) (h : 0 ≤ n ∧ n ≤ 16777215) : Ev (fun k => serinetteref18_Number.f k n 3) [(n / 65536) % 256, (n / 256) % 256, n % 256] := by
  unfold serinetteref18_Number.f
  refine Ev.step (fun k => serinetteref18_Number.l0.eq_2 ..) ?_
  refine evT (by decide) ?_
  refine evC rfl ?_
  refine evT (by simp) ?_
  refine Ev.step (fun k => serinetteref18_Number.l0.eq_2 ..) ?_
  rw [show wrap64 (0 + 1) = 1 from by decide +kernel]
  refine evT (by decide) ?_
  refine evC rfl ?_
  refine evT (by simp) ?_
  refine Ev.step (fun k => serinetteref18_Number.l0.eq_2 ..) ?_
  rw [show wrap64 (1 + 1) = 2 from by decide +kernel]
  refine evT (by decide) ?_
  refine evC rfl ?_
  refine evT (by simp) ?_
  refine Ev.step (fun k => serinetteref18_Number.l0.eq_2 ..) ?_
  rw [show wrap64 (2 + 1) = 3 from by decide +kernel]
  refine evF (by decide) ?_
  refine evR (Ev.now _) ?_
  rw [tdiv_pos n 256 h.1, tmod_pos n 256 h.1, wr (n / 256) (by omega), tdiv_pos (n / 256) 256 (by omega), tmod_pos (n / 256) 256 (by omega), wr (n / 256 / 256) (by omega), tmod_pos (n / 256 / 256) 256 (by omega)]
  rw [show n / 256 / 256 = n / 65536 by omega, Int.emod_emod, Int.emod_emod, Int.emod_emod]
  rfl
theorem rpack0 (l : List S24) (hl : l.length ≤ 1000000) (R : List Int × Int) (d : Nat) : ∀ i : Nat, i + d = l.length → (oddL (l.drop i) = 0 → Ev (fun k => serinetteref18_Pack.l1 k l [102, 76, 97, 67] 0) R) →
    (oddL (l.drop i) ≠ 0 → R = ([], oddL (l.drop i))) → Ev (fun k => serinetteref18_Pack.l0 k l (i : Int)) R := by
  induction d with
  | zero =>
    intro i hi h1 h2
    refine Ev.step (fun k => serinetteref18_Pack.l0.eq_2 ..) ?_
    refine evF (by omega) ?_
    exact h1 (by rw [List.drop_eq_nil_of_le (by omega)]; rfl)
  | succ d ih =>
    intro i hi h1 h2
    have hlt : i < l.length := by omega
    refine Ev.step (fun k => serinetteref18_Pack.l0.eq_2 ..) ?_
    refine evT (by omega) ?_
    refine evT (by omega) ?_
    rw [getT l i hlt]
    refine evB (rodd_ev _) ?_
    rw [List.drop_eq_getElem_cons hlt, oddL] at h1 h2
    by_cases c : oddE l[i] = 0
    · rw [if_pos c] at h1 h2
      refine evT c ?_
      rw [wr _ (by omega)]
      exact ih (i + 1) (by omega) h1 h2
    · rw [if_neg c] at h1 h2
      rw [h2 c]
      exact evF c (Ev.now _)
theorem rpack1 (l : List S24) (hl : l.length ≤ 1000000) (ho : ∀ m ∈ l, oddE m = 0) (d : Nat) : ∀ (i : Nat) (acc : List Int), i + d = l.length → acc.length + (blk (l.drop i)).length ≤ 1000000 →
    Ev (fun k => serinetteref18_Pack.l1 k l acc (i : Int)) (if okK (decide (i = 0)) (l.drop i) = true then (acc ++ blk (l.drop i), 0) else ([], 5)) := by
  induction d with
  | zero =>
    intro i acc hi hb
    refine Ev.step (fun k => serinetteref18_Pack.l1.eq_2 ..) ?_
    refine evF (by omega) ?_
    rw [List.drop_eq_nil_of_le (by omega), okK, if_pos rfl, blk, List.append_nil]
    exact Ev.now _
  | succ d ih =>
    intro i acc hi hb
    have hlt : i < l.length := by omega
    have hz := oddE_zero (ho l[i] (List.getElem_mem _))
    rw [List.drop_eq_getElem_cons hlt] at hb ⊢
    have hrl : (l.drop (i + 1)).length = l.length - (i + 1) := List.length_drop
    generalize hm : l[i] = m at *
    generalize hr : l.drop (i + 1) = r at *
    rw [blk_cons] at hb ⊢
    have hg : rd_T24 l (i : Int) = m := by rw [getT l i hlt, hm]
    refine Ev.step (fun k => serinetteref18_Pack.l1.eq_2 ..) ?_
    refine evT (by omega) ?_
    refine evT (by omega) ?_
    rw [hg]
    rw [List.length_append, List.length_append] at hb
    simp only [List.length_cons, List.length_nil] at hb
    have key : ∀ (b : Int), b = m.f0 + (if r.length = 0 then 128 else 0) → Ev (fun k => if acc.length < 140737488355328 then ((some (acc ++ [b] : List Int)).bind fun y147 => ((serinetteref18_Number.f k ((m.f1).length : Int) 3).bind fun t151 => (if y147.length + t151.length < 140737488355328 then ((some (y147 ++ t151 : List Int)).bind fun y154 => (if y154.length + (m.f1).length < 140737488355328 then (serinetteref18_Pack.l1 k l (y154 ++ m.f1) (wrap64 ((i : Int) + 1))) else (none))) else (none)))) else (none))
        (if okK false r = true then (acc ++ ([m.f0 + (if r.length = 0 then 128 else 0), ((m.f1.length : Int) / 65536) % 256, ((m.f1.length : Int) / 256) % 256, ((m.f1.length : Int)) % 256] ++ m.f1 ++ blk r), 0) else ([], 5)) := by
      intro b e
      refine evT (by omega) ?_
      refine evC rfl ?_
      refine evB (number_ev _ (by omega)) ?_
      refine evT (by simp only [List.length_append, List.length_cons, List.length_nil]; omega) ?_
      refine evC rfl ?_
      refine evT (by simp only [List.length_append, List.length_cons, List.length_nil]; omega) ?_
      rw [wr _ (by omega)]
      have := ih (i + 1) (((acc ++ [b]) ++ [((m.f1.length : Int) / 65536) % 256, ((m.f1.length : Int) / 256) % 256, ((m.f1.length : Int)) % 256]) ++ m.f1) (by omega) (by rw [hr]; simp only [List.length_append, List.length_cons, List.length_nil]; omega)
      rw [hr, decide_eq_false (by omega), e] at this
      rw [e]
      refine evR this ?_
      simp only [List.append_assoc, List.cons_append, List.nil_append]
    have j2 : ∀ x : Bool, (x = ((m.f0 == 0) != decide (i = 0))) → Ev (fun k => serinetteref18_Pack.j2 k l acc (i : Int) x) (if okK (decide (i = 0)) (m :: r) = true then (acc ++ ([m.f0 + (if r.length = 0 then 128 else 0), ((m.f1.length : Int) / 65536) % 256, ((m.f1.length : Int) / 256) % 256, ((m.f1.length : Int)) % 256] ++ m.f1 ++ blk r), 0) else ([], 5)) := by
      intro x hx
      refine Ev.step (fun k => serinetteref18_Pack.j2.eq_2 ..) ?_
      rw [okK]
      subst hx
      by_cases c : ((m.f0 == 0) != decide (i = 0)) = true
      · rw [if_pos c, if_neg (by decide)]
        exact evT c (Ev.now _)
      rw [if_neg c]
      refine evF c ?_
      refine evT (by omega) ?_
      refine evT (by omega) ?_
      rw [hg, wr ((l.length : Int) - 1) (by omega)]
      by_cases c2 : (i : Int) = (l.length : Int) - 1
      · refine evT c2 ?_
        refine key _ ?_
        rw [if_pos (by omega), wr _ (by omega)]
        omega
      · refine evF c2 ?_
        refine key _ ?_
        rw [if_neg (by omega)]
        omega
    by_cases h0 : m.f0 = 0
    · refine evT h0 ?_
      by_cases hi0 : i = 0
      · refine evF (by omega) (j2 _ ?_)
        rw [h0, hi0]
        rfl
      · refine evT (by omega) (j2 _ ?_)
        rw [h0, decide_eq_false hi0]
        rfl
    · refine evF h0 (j2 _ ?_)
      rw [z_dec, beq_false_of_ne h0]
      simp
theorem rpack_ev (l : List S24) (hl : l.length ≤ 1000000) (hb : 4 + (blk l).length ≤ 1000000) : Ev (fun k => serinetteref18_Pack.f k l) (packP l) := by
  unfold serinetteref18_Pack.f packP
  by_cases h : l.length = 0
  · rw [if_pos h]
    exact evT (by omega) (Ev.now _)
  rw [if_neg h]
  refine evF (by omega) ?_
  refine rpack0 l hl _ l.length 0 (by omega) ?_ ?_
  · intro h0
    rw [List.drop_zero] at h0
    unfold packL
    rw [if_pos h0]
    have := rpack1 l hl (oddL_zero h0) l.length 0 [102, 76, 97, 67] (by omega) (by rw [List.drop_zero]; simp only [List.length_cons, List.length_nil]; omega)
    rw [List.drop_zero, decide_eq_true rfl] at this
    exact this
  · intro h0
    rw [List.drop_zero] at h0 ⊢
    unfold packL
    rw [if_neg h0]
theorem runpack1 (l : List Int) (hl : l.length ≤ 1000000) (hb : ∀ x ∈ l, 0 ≤ x ∧ x ≤ 255) : ∀ (n a : Nat) (acc : List S24), a ≤ l.length → l.length - a < n → acc.length ≤ a →
    Ev (fun k => serinetteref18_Unpack.l0 k l acc (a : Int)) (unp n (l.drop a) acc (a : Int))
  | 0, _, _, _, h, _ => by omega
  | n + 1, a, acc, ha, hn, hacc => by
    refine Ev.step (fun k => serinetteref18_Unpack.l0.eq_2 ..) ?_
    rw [wr ((l.length : Int) - (a : Int)) (by omega), wr ((a : Int) + 1) (by omega), wr ((a : Int) + 2) (by omega), wr ((a : Int) + 3) (by omega)]
    by_cases h4 : (l.length : Int) - (a : Int) < 4
    · rw [unp_short _ _ _ _ (by rw [List.length_drop]; omega)]
      exact evT h4 (Ev.now _)
    refine evF h4 ?_
    refine evT (by omega) ?_
    refine evT (by omega) ?_
    refine evT (by omega) ?_
    refine evT (by omega) ?_
    refine evT (by omega) ?_
    refine evT (by omega) ?_
    refine evT (by omega) ?_
    refine evT (by omega) ?_
    rw [drop4 l a (by omega)]
    have g0 := rd_in l hb a (by omega)
    have g1 := rd_in l hb (a + 1) (by omega)
    have g2 := rd_in l hb (a + 2) (by omega)
    have g3 := rd_in l hb (a + 3) (by omega)
    rw [Int.natCast_add] at g1 g2 g3
    change 0 ≤ rd l ((a : Int) + 1) ∧ rd l ((a : Int) + 1) ≤ 255 at g1
    change 0 ≤ rd l ((a : Int) + 2) ∧ rd l ((a : Int) + 2) ≤ 255 at g2
    change 0 ≤ rd l ((a : Int) + 3) ∧ rd l ((a : Int) + 3) ≤ 255 at g3
    generalize hb0 : rd l (a : Int) = b0 at *
    generalize rd l ((a : Int) + 1) = b1 at *
    generalize rd l ((a : Int) + 2) = b2 at *
    generalize rd l ((a : Int) + 3) = b3 at *
    rw [wr b0 (by omega), wr b1 (by omega), wr b2 (by omega), wr b3 (by omega), tmod_pos b0 128 g0.1, wr (65536 * b1) (by omega), wr (256 * b2) (by omega), wr (65536 * b1 + 256 * b2) (by omega), wr (65536 * b1 + 256 * b2 + b3) (by omega), unp]
    rw [show 65536 * b1 + 256 * b2 + b3 = b1 * 65536 + b2 * 256 + b3 by omega]
    have hs : 0 ≤ b1 * 65536 + b2 * 256 + b3 ∧ b1 * 65536 + b2 * 256 + b3 < 16777216 := by omega
    generalize b1 * 65536 + b2 * 256 + b3 = s at *
    by_cases c1 : b0 % 128 = 127
    · rw [if_pos c1]
      exact evT c1 (Ev.now _)
    rw [if_neg c1]
    refine evF c1 ?_
    have j1 : ∀ x : Bool, x = ((b0 % 128 == 0) != ((acc.length : Int) == 0)) → Ev (fun k => serinetteref18_Unpack.j1 k l acc (a : Int) (b0 % 128) s x) (if ((b0 % 128 == 0) != ((acc.length : Int) == 0)) = true then ([], 0, 5) else
        if (((l.drop (a + 4)).length : Nat) : Int) < s then ([], 0, 2) else
        if b0 < 128 then unp n ((l.drop (a + 4)).drop s.toNat) (acc ++ [⟨b0 % 128, (l.drop (a + 4)).take s.toNat⟩]) (a + 4 + s)
        else (acc ++ [⟨b0 % 128, (l.drop (a + 4)).take s.toNat⟩], a + 4 + s, 0)) := by
      intro x hx
      refine Ev.step (fun k => serinetteref18_Unpack.j1.eq_2 ..) ?_
      subst hx
      by_cases c2 : ((b0 % 128 == 0) != ((acc.length : Int) == 0)) = true
      · rw [if_pos c2]
        exact evT c2 (Ev.now _)
      rw [if_neg c2]
      refine evF c2 ?_
      rw [wr ((l.length : Int) - (a : Int)) (by omega), wr ((l.length : Int) - (a : Int) - 4) (by omega), wr ((a : Int) + 4) (by omega), wr ((a : Int) + 4 + s) (by omega), List.length_drop]
      by_cases c3 : (l.length : Int) - (a : Int) - 4 < s
      · rw [if_pos (by omega)]
        exact evT c3 (Ev.now _)
      rw [if_neg (by omega)]
      refine evF c3 ?_
      refine evT (by omega) ?_
      refine evT (by omega) ?_
      refine evT (by omega) ?_
      have hcut : (l.take ((a : Int) + 4 + s).toNat).drop ((a : Int) + 4).toNat = (l.drop (a + 4)).take s.toNat := by
        rw [List.drop_take, show ((a : Int) + 4).toNat = a + 4 by omega, show ((a : Int) + 4 + s).toNat - (a + 4) = s.toNat by omega]
      rw [hcut]
      refine evT (by omega) ?_
      refine evC rfl ?_
      refine evT (by omega) ?_
      refine evT (by omega) ?_
      rw [hb0, show (a : Int) + 4 + s = ((a + 4 + s.toNat : Nat) : Int) by omega]
      by_cases c4 : b0 < 128
      · rw [if_pos c4, List.drop_drop]
        refine evF (by omega) ?_
        exact runpack1 l hl hb n (a + 4 + s.toNat) _ (by omega) (by omega) (by rw [List.length_append, List.length_singleton]; omega)
      · rw [if_neg c4]
        exact evT (by omega) (Ev.now _)
    by_cases c5 : b0 % 128 = 0
    · refine evT c5 ?_
      by_cases c6 : (acc.length : Int) > 0
      · refine evT c6 (j1 _ ?_)
        rw [c5, beq_false_of_ne (show (acc.length : Int) ≠ 0 by omega)]
        rfl
      · refine evF c6 (j1 _ ?_)
        rw [c5, show (acc.length : Int) = 0 by omega]
        rfl
    · refine evF c5 (j1 _ ?_)
      rw [beq_false_of_ne c5]
      simp
theorem runpack_ev (l : List Int) (hl : l.length ≤ 1000000) (hb : ∀ x ∈ l, 0 ≤ x ∧ x ≤ 255) : Ev (fun k => serinetteref18_Unpack.f k l) (unpackP l) := by
  unfold serinetteref18_Unpack.f unpackP
  by_cases h : l.length < 4
  · rw [if_pos h]
    exact evT (by omega) (Ev.now _)
  rw [if_neg h]
  refine evF (by omega) ?_
  refine evT (by omega) ?_
  have e := magic_iff (l.take 4) (by rw [List.length_take]; omega) (fun x hx => hb x (List.mem_of_mem_take hx))
  by_cases c : l.take 4 = [102, 76, 97, 67]
  · rw [if_pos c]
    refine evT (e.2 c) ?_
    exact runpack1 l hl hb (l.length + 1) 4 [] (by omega) (by omega) (by simp)
  · rw [if_neg c]
    exact evF (fun x => c (e.1 x)) (Ev.now _)
theorem unp_in : ∀ (n : Nat) (s : List Int) (acc : List S24) (a : Int) (c : Nat), s.length ≤ c → acc.length + s.length ≤ c → (∀ m ∈ acc, m.f1.length ≤ c) → (unp n s acc a).1.length ≤ c ∧ ∀ m ∈ (unp n s acc a).1, m.f1.length ≤ c
  | 0, _, _, _, _, _, _, _ => by simp [unp]
  | n + 1, s, acc, a, c, h0, h1, h2 => by
    by_cases h4 : s.length < 4
    · rw [unp_short _ _ _ _ h4]
      simp
    match s, h4 with
    | [], h => exact absurd (by decide) h
    | [_], h => exact absurd (by simp) h
    | [_, _], h => exact absurd (by simp) h
    | [_, _, _], h => exact absurd (by simp) h
    | b0 :: b1 :: b2 :: b3 :: t, _ =>
      simp only [List.length_cons] at h0 h1
      have h3 : ∀ (z : Nat) (m : S24), m ∈ acc ++ [⟨b0 % 128, t.take z⟩] → m.f1.length ≤ c := by
        intro z m hm
        rcases List.mem_append.1 hm with hm | hm
        · exact h2 m hm
        · rw [List.mem_singleton.1 hm]
          show (t.take z).length ≤ c
          rw [List.length_take]
          omega
      rw [unp]
      split
      · simp
      · split
        · simp
        · split
          · simp
          · split
            · refine unp_in n _ _ _ c ?_ ?_ (h3 _)
              · rw [List.length_drop]; omega
              · rw [List.length_drop, List.length_append, List.length_singleton]; omega
            · refine ⟨?_, h3 _⟩
              rw [List.length_append, List.length_singleton]; omega
theorem unpackP_in (l : List Int) (h : l.length ≤ 1000000) : (unpackP l).1.length ≤ 1000000 ∧ ∀ m ∈ (unpackP l).1, m.f1.length ≤ 1000000 := by
  unfold unpackP
  split
  · simp
  · split
    · exact unp_in _ _ _ _ 1000000 (by rw [List.length_drop]; omega) (by rw [List.length_drop]; simp; omega) (by simp)
    · simp
theorem packP_len (l : List S24) (h : 4 + (blk l).length ≤ 1000000) : (packP l).1.length ≤ 1000000 := by
  unfold packP packL
  split
  · simp
  · split
    · split
      · simp only [List.length_append, List.length_cons, List.length_nil]; omega
      · simp
    · simp
theorem MetaPacks : serinettelaw18_MetaPacks.Pure := by
  intro l0 l1 hl0 hw0 hl1 hw1
  suffices h : Ev (fun k => serinettelaw18_MetaPacks.f k l0 l1) true by
    obtain ⟨K, h⟩ := h
    exact ⟨K, h K (by omega)⟩
  unfold serinettelaw18_MetaPacks.f
  refine evC (a := true) rfl ?_
  obtain ⟨b, h1, h2⟩ := few_ev l0 hl0
  refine evB h1 ?_
  cases b with
  | false =>
    refine evF (by decide) ?_
    refine Ev.step (fun k => serinettelaw18_MetaPacks.j0.eq_2 ..) ?_
    exact evT rfl (Ev.now _)
  | true =>
    refine evT rfl ?_
    refine Ev.step (fun k => serinettelaw18_MetaPacks.j0.eq_2 ..) ?_
    by_cases c : (l1.length : Int) > 600
    · rw [decide_eq_true c]
      exact evT rfl (Ev.now _)
    rw [decide_eq_false c]
    refine evF (by decide) ?_
    obtain ⟨h3, h4⟩ := h2 rfl
    have h5 := blk_len l0 200 h4
    have h6 : (blk l0).length ≤ 2040 := by
      have : l0.length * (4 + 200) ≤ 10 * 204 := Nat.mul_le_mul h3 (Nat.le_refl _)
      omega
    have hb : ∀ x ∈ l1, 0 ≤ x ∧ x ≤ 255 := fun x hx => wf_u8 (hw1 x hx)
    refine evB (pack_ev l0 (by omega) (by omega)) ?_
    refine evB (rpack_ev l0 (by omega) (by omega)) ?_
    refine evB (unpack_ev l1 (by omega) hb) ?_
    refine evB (runpack_ev l1 (by omega) hb) ?_
    refine evT rfl ?_
    refine evT rfl ?_
    refine evB (same_same _ _ (by have := packP_len l0 (by omega); omega) rfl) ?_
    refine evT rfl ?_
    refine evT rfl ?_
    refine evT rfl ?_
    have h7 := unpackP_in l1 (by omega)
    refine evB (metas_ev _ _ h7.1 rfl h7.2) ?_
    exact Ev.now _
end Go.Proofs.Ytpeejdmbnlhjmaa.Pure
