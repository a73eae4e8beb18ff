/- The statement MetaSizes, where what is read is of bulk at most 1048576: blocks have as many bytes as their bodies and four for each, and four ahead; one more block changes one byte of what stands ahead of it. For up to ten blocks of up to 200 bytes. -/
import Derived.Test.YtpeejdmbnlhjmaaPMetaSizesx2
import Derived.Test.YtpeejdmbnlhjmaaLEv
import Derived.Test.YtpeejdmbnlhjmaaFMetaSizesMeta
namespace Go.Proofs.Ytpeejdmbnlhjmaa.Pure
open Go.RowKit Go.Proofs.YtpeejdmbnlhjmaaW.PrintWords Go.Proofs.YtpeejdmbnlhjmaaW.PrintLast Go.Proofs.Ytpeejdmbnlhjmaa.PMetaSizes Go.Proofs.Ytpeejdmbnlhjmaa.H Go.Proofs.Ytpeejdmbnlhjmaa.L Go.Proofs.Ytpeejdmbnlhjmaa.FMetaSizes
set_option linter.unusedVariables false
set_option linter.unusedSimpArgs false
def len4 (l : List S24) : Nat := (l.map fun m => 4 + m.f1.length).sum
theorem len4_append (a b : List S24) : len4 (a ++ b) = len4 a + len4 b := by simp [len4]
/-- Blocks, none of which is the last. -/
def blkN : List S24 → List Int
  | [] => []
  | m :: r => m.f0 :: ((m.f1.length : Int) / 65536) % 256 :: ((m.f1.length : Int) / 256) % 256 :: ((m.f1.length : Int)) % 256 :: (m.f1 ++ blkN r)
theorem blkN_len : ∀ l : List S24, (blkN l).length = len4 l
  | [] => rfl
  | m :: r => by
    have := blkN_len r
    unfold len4 at this ⊢
    rw [blkN, List.map_cons, List.sum_cons]
    simp only [List.length_cons, List.length_append, this]
    omega
theorem blk_split : ∀ (a r : List S24), r ≠ [] → blk (a ++ r) = blkN a ++ blk r
  | [], r, _ => rfl
  | m :: a, r, h => by
    rw [List.cons_append, blk, if_neg (by intro e; rw [List.length_append] at e; exact h (List.eq_nil_of_length_eq_zero (by omega))), blk_split a r h, blkN]
    simp
theorem blk_one (m : S24) : blk [m] = (m.f0 + 128) :: ((m.f1.length : Int) / 65536) % 256 :: ((m.f1.length : Int) / 256) % 256 :: ((m.f1.length : Int)) % 256 :: m.f1 := by
  rw [blk, if_pos (show ([] : List S24).length = 0 from rfl), blk, List.append_nil]
theorem snoc (l : List S24) (h : l ≠ []) : ∃ a m, l = a ++ [m] := by
  rcases List.eq_nil_or_concat l with h0 | ⟨a, m, h0⟩
  · exact absurd h0 h
  · exact ⟨a, m, by rw [h0, List.concat_eq_append]⟩
theorem blk_len4 (l : List S24) : (blk l).length = len4 l := by
  by_cases h : l = []
  · subst h; rfl
  · obtain ⟨a, m, rfl⟩ := snoc l h
    rw [blk_split a [m] (by simp), List.length_append, blkN_len, len4_append, blk_one]
    simp only [List.length_cons, len4, List.map_cons, List.map_nil, List.sum_cons, List.sum_nil]
    omega
theorem okK_more (x : S24) (hx : x.f0 ≠ 0) : ∀ (l : List S24) (first : Bool), l ≠ [] → okK first (l ++ [x]) = okK first l
  | [], _, h => absurd rfl h
  | [m], first, _ => by
    show okK first (m :: [x]) = okK first [m]
    rw [okK, okK, okK, okK, okK, beq_false_of_ne hx]
    rfl
  | m :: q :: r, first, _ => by
    have := okK_more x hx (q :: r) false (by simp)
    show (if ((m.f0 == 0) != first) = true then false else okK false ((q :: r) ++ [x])) = (if ((m.f0 == 0) != first) = true then false else okK false (q :: r))
    rw [this]
theorem packP_of (l : List S24) (h : (packP l).2 = 0) : l ≠ [] ∧ packP l = ([102, 76, 97, 67] ++ blk l, 0) ∧ (∀ m ∈ l, oddE m = 0) ∧ okK true l = true := by
  unfold packP packL at h ⊢
  split at h <;> rename_i c1
  · cases h
  rw [if_neg c1]
  split at h <;> rename_i c2
  · rw [if_pos c2]
    split at h <;> rename_i c3
    · rw [if_pos c3]
      exact ⟨fun e => c1 (by rw [e]; rfl), rfl, oddL_zero c2, c3⟩
    · cases h
  · exact absurd h c2
theorem packP_put (l : List S24) (h0 : l ≠ []) (h1 : ∀ m ∈ l, oddE m = 0) (h2 : okK true l = true) : packP l = ([102, 76, 97, 67] ++ blk l, 0) := by
  unfold packP packL
  rw [if_neg (fun e => h0 (List.eq_nil_of_length_eq_zero e)), if_pos (oddL_of h1), if_pos h2]
theorem rd_app (p : List Int) (y : Int) (t : List Int) (i : Nat) : rd (p ++ y :: t) (i : Int) = if i < p.length then p.getD i 0 else if i = p.length then y else t.getD (i - p.length - 1) 0 := by
  unfold rd
  rw [Int.toNat_natCast]
  split
  · rename_i h
    simp [List.getD_eq_getElem?_getD, List.getElem?_append_left h]
  · rename_i h
    split
    · rename_i h2
      subst h2
      simp [List.getD_eq_getElem?_getD]
    · rename_i h2
      rw [List.getD_eq_getElem?_getD, List.getD_eq_getElem?_getD, List.getElem?_append_right (by omega), show i - p.length = (i - p.length - 1) + 1 by omega, List.getElem?_cons_succ]
      rfl
theorem sizes_l1 (p t s : List Int) (a : Int) (ha : 0 ≤ a ∧ a < 127) (hp : p.length ≤ 1000000) (ht : t.length ≤ 1000000) (hs : s.length ≤ 1000000) (h130 : s.getD 0 0 = 130) (hs1 : 1 ≤ s.length) (d : Nat) : ∀ i : Nat, i + d = p.length + 1 + t.length →
    Ev (fun k => serinettelaw18_MetaSizes.l1 k true (p ++ (a + 128) :: t) ((p.length + 1 + t.length : Nat) : Int) (p.length : Int) (p ++ a :: (t ++ s)) (i : Int)) true := by
  induction d with
  | zero =>
    intro i hi
    refine Ev.step (fun k => serinettelaw18_MetaSizes.l1.eq_2 ..) ?_
    refine evF (by omega) ?_
    refine evT rfl ?_
    refine evT (by omega) ?_
    refine evT (by simp only [List.length_append, List.length_cons]; omega) ?_
    refine evT (by simp only [List.length_append, List.length_cons]; omega) ?_
    have e1 : rd (p ++ (a + 128) :: t) (p.length : Int) = a + 128 := by rw [rd_app, if_neg (Nat.lt_irrefl _), if_pos rfl]
    have e2 : rd (p ++ a :: (t ++ s)) (p.length : Int) = a := by rw [rd_app, if_neg (Nat.lt_irrefl _), if_pos rfl]
    have e3 : rd (p ++ a :: (t ++ s)) ((p.length + 1 + t.length : Nat) : Int) = (t ++ s).getD (p.length + 1 + t.length - p.length - 1) 0 := by rw [rd_app, if_neg (by omega), if_neg (by omega)]
    rw [e1, e2, e3]
    refine evT (by omega) ?_
    refine evT (by omega) ?_
    refine evT (by simp only [List.length_append, List.length_cons]; omega) ?_
    refine evR (Ev.now _) ?_
    rw [show p.length + 1 + t.length - p.length - 1 = t.length by omega]
    rw [show (t ++ s).getD t.length 0 = s.getD 0 0 by rw [List.getD_eq_getElem?_getD, List.getD_eq_getElem?_getD, List.getElem?_append_right (Nat.le_refl _), Nat.sub_self], h130]
    rfl
  | succ d ih =>
    intro i hi
    refine Ev.step (fun k => serinettelaw18_MetaSizes.l1.eq_2 ..) ?_
    refine evT (by omega) ?_
    refine evT (by omega) ?_
    refine evT (by simp only [List.length_append, List.length_cons]; omega) ?_
    refine evT (by simp only [List.length_append, List.length_cons]; omega) ?_
    refine evF ?_ ?_
    · rw [rd_app, rd_app]
      by_cases h1 : i < p.length
      · rw [if_pos h1, if_pos h1, beq_false_of_ne (show (i : Int) ≠ (p.length : Int) by omega)]
        simp
      rw [if_neg h1, if_neg h1]
      by_cases h2 : i = p.length
      · rw [if_pos h2, if_pos h2, h2, show (((p.length : Nat) : Int) == ((p.length : Nat) : Int)) = true by simp, show (a + 128 != a) = true from bne_iff_ne.mpr (by omega)]
        decide
      rw [if_neg h2, if_neg h2, beq_false_of_ne (show (i : Int) ≠ (p.length : Int) by omega)]
      rw [show (t ++ s).getD (i - p.length - 1) 0 = t.getD (i - p.length - 1) 0 by rw [List.getD_eq_getElem?_getD, List.getD_eq_getElem?_getD, List.getElem?_append_left (by omega)]]
      simp
    · rw [wr _ (by omega)]
      exact ih (i + 1) (by omega)
theorem sizes_end (l : List S24) (hl : l.length ≤ 10) (h200 : ∀ m ∈ l, m.f1.length ≤ 200) (h0 : l ≠ []) (ho : ∀ m ∈ l, oddE m = 0) (hk : okK true l = true) :
    Ev (fun k => serinettelaw18_MetaSizes.l0 k l true ([102, 76, 97, 67] ++ blk l) ((4 + len4 l : Nat) : Int) ((4 + len4 (l.take (l.length - 1)) : Nat) : Int) (l.length : Int)) true := by
  refine Ev.step (fun k => serinettelaw18_MetaSizes.l0.eq_2 ..) ?_
  refine evF (by omega) ?_
  refine evC rfl ?_
  refine evT (by omega) ?_
  have hx : oddE (⟨2, [7]⟩ : S24) = 0 := by decide
  have ho' : ∀ m ∈ l ++ [(⟨2, [7]⟩ : S24)], oddE m = 0 := by
    intro m hm
    rcases List.mem_append.1 hm with hm | hm
    · exact ho m hm
    · rw [List.mem_singleton.1 hm]; exact hx
  have hb := blk_len l 200 h200
  have hb2 : (blk l).length ≤ 2040 := by
    have : l.length * (4 + 200) ≤ 10 * 204 := Nat.mul_le_mul hl (Nat.le_refl _)
    omega
  have hl4 := blk_len4 l
  have hl5 := blk_len4 (l ++ [(⟨2, [7]⟩ : S24)])
  have h7 : len4 (l ++ [(⟨2, [7]⟩ : S24)]) = len4 l + 5 := len4_append _ _
  refine evB (pack_ev (l ++ [(⟨2, [7]⟩ : S24)]) (by rw [List.length_append, List.length_singleton]; omega) (by omega)) ?_
  rw [packP_put _ (by simp) ho' (by rw [okK_more _ (by decide) l true h0]; exact hk)]
  have e1 : ([102, 76, 97, 67] ++ blk l).length = 4 + len4 l := by rw [List.length_append, hl4]; rfl
  have e2 : ([102, 76, 97, 67] ++ blk (l ++ [(⟨2, [7]⟩ : S24)])).length = 4 + len4 l + 5 := by rw [List.length_append, hl5, h7]; rfl
  refine evT rfl ?_
  refine evT (by rw [e1]) ?_
  simp only
  rw [e2, wr _ (by omega), show (((4 + len4 l + 5 : Nat) : Int) != ((4 + len4 l : Nat) : Int) + 5) = false by rw [bne_eq_false_iff_eq]; omega]
  refine Ev.step (fun k => serinettelaw18_MetaSizes.j2.eq_2 ..) ?_
  refine evF (by decide) ?_
  obtain ⟨a, m, rfl⟩ := snoc l h0
  have hm := oddE_zero (ho m (by simp))
  have hla := blkN_len a
  have hle : len4 (a ++ [m]) = len4 a + (4 + m.f1.length) := by rw [len4_append]; simp [len4]
  have htk : (a ++ [m]).take ((a ++ [m]).length - 1) = a := by
    rw [List.length_append, List.length_singleton, Nat.add_sub_cancel, List.take_left' rfl]
  rw [htk]
  have f1 : [102, 76, 97, 67] ++ blk (a ++ [m]) = ([102, 76, 97, 67] ++ blkN a) ++ (m.f0 + 128) :: (((m.f1.length : Int) / 65536) % 256 :: ((m.f1.length : Int) / 256) % 256 :: ((m.f1.length : Int)) % 256 :: m.f1) := by
    rw [blk_split a [m] (by simp), blk_one, List.append_assoc]
  have f2 : [102, 76, 97, 67] ++ blk (a ++ [m] ++ [(⟨2, [7]⟩ : S24)]) = ([102, 76, 97, 67] ++ blkN a) ++ m.f0 :: ((((m.f1.length : Int) / 65536) % 256 :: ((m.f1.length : Int) / 256) % 256 :: ((m.f1.length : Int)) % 256 :: m.f1) ++ [130, 0, 0, 1, 7]) := by
    rw [blk_split (a ++ [m]) [(⟨2, [7]⟩ : S24)] (by simp), blk_one]
    have : ∀ b : List S24, blkN (b ++ [m]) = blkN b ++ blkN [m] := by
      intro b
      induction b with
      | nil => rfl
      | cons q r ih =>
        have e1 : blkN (q :: r) = q.f0 :: ((q.f1.length : Int) / 65536) % 256 :: ((q.f1.length : Int) / 256) % 256 :: ((q.f1.length : Int)) % 256 :: (q.f1 ++ blkN r) := rfl
        have e2 : blkN (q :: r ++ [m]) = q.f0 :: ((q.f1.length : Int) / 65536) % 256 :: ((q.f1.length : Int) / 256) % 256 :: ((q.f1.length : Int)) % 256 :: (q.f1 ++ blkN (r ++ [m])) := rfl
        rw [e2, e1, ih]
        simp only [List.cons_append, List.append_assoc]
    rw [this a, blkN, blkN]
    simp
  have g := sizes_l1 ([102, 76, 97, 67] ++ blkN a) (((m.f1.length : Int) / 65536) % 256 :: ((m.f1.length : Int) / 256) % 256 :: ((m.f1.length : Int)) % 256 :: m.f1) [130, 0, 0, 1, 7] m.f0 ⟨hm.1, hm.2.1⟩
    (by simp only [List.length_append, List.length_cons, List.length_nil]; omega) (by simp only [List.length_cons]; have := h200 m (by simp); omega) (by decide) rfl (by decide) _ 0 (Nat.zero_add _)
  rw [← f1, ← f2] at g
  have p1 : ([102, 76, 97, 67] ++ blkN a).length = 4 + len4 a := by rw [List.length_append, hla]; rfl
  rw [p1, show 4 + len4 a + 1 + (((m.f1.length : Int) / 65536) % 256 :: ((m.f1.length : Int) / 256) % 256 :: ((m.f1.length : Int)) % 256 :: m.f1).length = 4 + len4 (a ++ [m]) by rw [hle]; simp only [List.length_cons]; omega] at g
  exact g
theorem take_len4 (l : List S24) (i : Nat) (h : i < l.length) : len4 (l.take (i + 1)) = len4 (l.take i) + (4 + l[i].f1.length) := by
  rw [List.take_add_one, List.getElem?_eq_getElem h, Option.toList_some, len4_append]
  simp [len4]
theorem sizes_l0 (l : List S24) (b : List Int) (hl : l.length ≤ 10) (h200 : ∀ m ∈ l, m.f1.length ≤ 200) (hlen : ∀ i, len4 (l.take i) ≤ 2040) (he : Ev (fun k => serinettelaw18_MetaSizes.l0 k l true b ((4 + len4 l : Nat) : Int) ((4 + len4 (l.take (l.length - 1)) : Nat) : Int) (l.length : Int)) true) (d : Nat) : ∀ i : Nat, i + d = l.length →
    Ev (fun k => serinettelaw18_MetaSizes.l0 k l true b ((4 + len4 (l.take i) : Nat) : Int) ((4 + len4 (l.take (i - 1)) : Nat) : Int) (i : Int)) true := by
  induction d with
  | zero =>
    intro i hi
    obtain rfl : i = l.length := by omega
    rw [List.take_length]
    exact he
  | succ d ih =>
    intro i hi
    have hlt : i < l.length := by omega
    have h1 := hlen i
    have h2 := h200 l[i] (List.getElem_mem _)
    refine Ev.step (fun k => serinettelaw18_MetaSizes.l0.eq_2 ..) ?_
    refine evT (by omega) ?_
    refine evT (by omega) ?_
    rw [getT l i hlt, wr (((4 + len4 (l.take i) : Nat) : Int) + 4) (by omega), wr _ (by omega), wr ((i : Int) + 1) (by omega)]
    have := ih (i + 1) (by omega)
    rw [take_len4 l i hlt, Nat.add_sub_cancel] at this
    rw [show ((4 + len4 (l.take i) : Nat) : Int) + 4 + (l[i].f1.length : Int) = ((4 + (len4 (l.take i) + (4 + l[i].f1.length)) : Nat) : Int) by omega]
    exact this
theorem sum_len (l : List S24) : len4 l ≤ 4 * (l.map fun x => x.f1.length + 1).sum := by
  unfold len4
  induction l with
  | nil => simp
  | cons m r ih =>
    rw [List.map_cons, List.map_cons, List.sum_cons, List.sum_cons]
    omega
theorem len_sum (l : List S24) : l.length ≤ (l.map fun x => x.f1.length + 1).sum := by
  induction l with
  | nil => simp
  | cons m r ih =>
    rw [List.map_cons, List.sum_cons, List.length_cons]
    omega
theorem MetaSizes : serinettelaw18_MetaSizes.Pure := by
  intro l0 hl0 hw0 hu0
  suffices h : Ev (fun k => serinettelaw18_MetaSizes.f k l0) true by
    obtain ⟨K, h⟩ := h
    exact ⟨K, h K (by omega)⟩
  unfold serinettelaw18_MetaSizes.f
  refine evC (a := true) rfl ?_
  obtain ⟨b, h1, h2⟩ := few_ev l0 hl0
  refine evB h1 ?_
  have s1 := sum_len l0
  have s2 := len_sum l0
  have s3 := blk_len4 l0
  refine evB (pack_ev l0 (by omega) (by omega)) ?_
  have out : Ev (fun k => serinettelaw18_MetaSizes.j0 k l0 true (packP l0).1 true) true := by
    refine Ev.step (fun k => serinettelaw18_MetaSizes.j0.eq_2 ..) ?_
    exact evT rfl (Ev.now _)
  cases b with
  | false => exact evF (by decide) out
  | true =>
    refine evT rfl ?_
    obtain ⟨h3, h4⟩ := h2 rfl
    by_cases ce : (packP l0).2 = 0
    · obtain ⟨g1, g2, g3, g4⟩ := packP_of l0 ce
      rw [g2]
      refine Ev.step (fun k => serinettelaw18_MetaSizes.j0.eq_2 ..) ?_
      refine evF (show ¬ ((0 : Int) != 0) = true by decide) ?_
      have hlen : ∀ i, len4 (l0.take i) ≤ 2040 := by
        intro i
        have q := blk_len (l0.take i) 200 (fun m hm => h4 m (List.mem_of_mem_take hm))
        rw [blk_len4] at q
        have q2 : (l0.take i).length ≤ 10 := by rw [List.length_take]; omega
        have : (l0.take i).length * (4 + 200) ≤ 10 * 204 := Nat.mul_le_mul q2 (Nat.le_refl _)
        omega
      have := sizes_l0 l0 ([102, 76, 97, 67] ++ blk l0) h3 h4 hlen (sizes_end l0 h3 h4 g1 g3 g4) l0.length 0 (Nat.zero_add _)
      exact this
    · rw [show ((packP l0).2 != 0) = true from bne_iff_ne.mpr ce]
      exact out
end Go.Proofs.Ytpeejdmbnlhjmaa.Pure
