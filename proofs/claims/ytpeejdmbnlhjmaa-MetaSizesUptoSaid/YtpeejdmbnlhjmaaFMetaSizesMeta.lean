/- Facts on metadata as plain lists: what Pack makes. -/
import Derived.Test.YtpeejdmbnlhjmaaPMetaSizesx2
import Derived.Laws.BitsLemmas
import Derived.Test.YtpeejdmbnlhjmaaLEv
import Derived.Test.YtpeejdmbnlhjmaaLNum
import Derived.Test.YtpeejdmbnlhjmaaLBits
namespace Go.Proofs.Ytpeejdmbnlhjmaa.FMetaSizes
open Go.RowKit Go.Proofs.YtpeejdmbnlhjmaaW.PrintWords Go.Proofs.YtpeejdmbnlhjmaaW.PrintLast Go.Proofs.Ytpeejdmbnlhjmaa.PMetaSizes Go.Proofs.Ytpeejdmbnlhjmaa.H Go.Proofs.Ytpeejdmbnlhjmaa.L
set_option linter.unusedVariables false
set_option linter.unusedSimpArgs false
theorem getT (l : List S24) (i : Nat) (h : i < l.length) : rd_T24 l (i : Int) = l[i] := by
  unfold rd_T24
  simp [List.getD_eq_getElem?_getD, h]
/-- Its code where it cannot be put. -/
def oddE (m : S24) : Int := if m.f0 < 0 ∨ m.f0 ≥ 127 then 8 else if (m.f1.length : Int) > 16777215 then 7 else 0
def oddL : List S24 → Int
  | [] => 0
  | m :: r => if oddE m = 0 then oddL r else oddE m
/-- The first of kind 0, and it alone. -/
def okK : Bool → List S24 → Bool
  | _, [] => true
  | first, m :: r => if ((m.f0 == 0) != first) = true then false else okK false r
def blk : List S24 → List Int
  | [] => []
  | m :: r => (m.f0 + (if r.length = 0 then 128 else 0)) :: ((m.f1.length : Int) / 65536) % 256 :: ((m.f1.length : Int) / 256) % 256 :: ((m.f1.length : Int)) % 256 :: (m.f1 ++ blk r)
def packL (l : List S24) : List Int × Int := if oddL l = 0 then (if okK true l = true then ([102, 76, 97, 67] ++ blk l, 0) else ([], 5)) else ([], oddL l)
def packP (l : List S24) : List Int × Int := if l.length = 0 then ([], 2) else packL l
theorem odd_ev (m : S24) : Ev (fun k => meta_odd.f k m.f0 m.f1) (oddE m) := by
  unfold meta_odd.f oddE
  by_cases h : m.f0 < 0
  · rw [if_pos (Or.inl h)]
    refine evT h ?_
    refine Ev.step (fun k => meta_odd.j0.eq_2 ..) ?_
    exact evT rfl (Ev.now _)
  · refine evF h ?_
    refine Ev.step (fun k => meta_odd.j0.eq_2 ..) ?_
    by_cases h2 : m.f0 ≥ 127
    · rw [decide_eq_true h2, if_pos (Or.inr h2)]
      exact evT rfl (Ev.now _)
    · rw [decide_eq_false h2, if_neg (show ¬ (m.f0 < 0 ∨ m.f0 ≥ 127) by omega)]
      refine evF (by decide) ?_
      exact evI (Ev.now _) (Ev.now _)
theorem oddE_zero {m : S24} (h : oddE m = 0) : 0 ≤ m.f0 ∧ m.f0 < 127 ∧ m.f1.length ≤ 16777215 := by
  unfold oddE at h
  split at h
  · cases h
  · split at h
    · cases h
    · omega
theorem oddL_zero : ∀ {l : List S24}, oddL l = 0 → ∀ m ∈ l, oddE m = 0
  | [], _ => by simp
  | m :: r, h => by
    unfold oddL at h
    split at h
    · intro x hx
      rcases List.mem_cons.1 hx with rfl | hx
      · assumption
      · exact oddL_zero h x hx
    · contradiction
theorem oddL_of : ∀ {l : List S24}, (∀ m ∈ l, oddE m = 0) → oddL l = 0
  | [], _ => rfl
  | m :: r, h => by
    unfold oddL
    rw [if_pos (h m (by simp))]
    exact oddL_of fun x hx => h x (by simp [hx])
theorem pack0 (l : List S24) (hl : l.length ≤ 100000000) (R : List Int × Int) (d : Nat) : ∀ i : Nat, i + d = l.length → (oddL (l.drop i) = 0 → Ev (fun k => meta_Pack.l1 k l [102, 76, 97, 67] l (l.length : Int) 0) R) →
    (oddL (l.drop i) ≠ 0 → R = ([], oddL (l.drop i))) → Ev (fun k => meta_Pack.l0 k l l (l.length : Int) (i : Int)) R := by
  induction d with
  | zero =>
    intro i hi h1 h2
    refine Ev.step (fun k => meta_Pack.l0.eq_2 ..) ?_
    refine evF (by omega) ?_
    exact h1 (by rw [List.drop_eq_nil_of_le (by omega)]; rfl)
  | succ d ih =>
    intro i hi h1 h2
    have hlt : i < l.length := by omega
    refine Ev.step (fun k => meta_Pack.l0.eq_2 ..) ?_
    refine evT (by omega) ?_
    refine evT (by omega) ?_
    refine evT (by omega) ?_
    rw [getT l i hlt]
    refine evB (odd_ev _) ?_
    rw [List.drop_eq_getElem_cons hlt, oddL] at h1 h2
    by_cases c : oddE l[i] = 0
    · rw [if_pos c] at h1 h2
      refine evT c ?_
      rw [wr _ (by omega)]
      exact ih (i + 1) (by omega) h1 h2
    · rw [if_neg c] at h1 h2
      rw [h2 c]
      exact evF c (Ev.now _)
theorem or128_all : ∀ b : Fin 128, Go.bits .or .u8 (b.val : Int) 128 = (b.val : Int) + 128 := by decide +kernel
theorem or128 (b : Int) (h : 0 ≤ b ∧ b < 128) : Go.bits .or .u8 b 128 = b + 128 := by
  have := or128_all ⟨b.toNat, by omega⟩
  simpa only [Int.toNat_of_nonneg h.1] using this
theorem blk_cons (m : S24) (r : List S24) : blk (m :: r) = [m.f0 + (if r.length = 0 then 128 else 0), ((m.f1.length : Int) / 65536) % 256, ((m.f1.length : Int) / 256) % 256, ((m.f1.length : Int)) % 256] ++ m.f1 ++ blk r := by
  rw [blk]
  simp
theorem z_dec (i : Nat) : ((i : Int) == 0) = decide (i = 0) := by
  by_cases h : i = 0
  · subst h; rfl
  · rw [decide_eq_false h]
    exact beq_false_of_ne (by omega)
theorem pack1 (l : List S24) (hl : l.length ≤ 100000000) (ho : ∀ m ∈ l, oddE m = 0) (d : Nat) : ∀ (i : Nat) (acc : List Int), i + d = l.length → acc.length + (blk (l.drop i)).length ≤ 100000000 →
    Ev (fun k => meta_Pack.l1 k l acc l (l.length : Int) (i : Int)) (if okK (decide (i = 0)) (l.drop i) = true then (acc ++ blk (l.drop i), 0) else ([], 5)) := by
  induction d with
  | zero =>
    intro i acc hi hb
    refine Ev.step (fun k => meta_Pack.l1.eq_2 ..) ?_
    refine evF (by omega) ?_
    rw [List.drop_eq_nil_of_le (by omega), okK, if_pos rfl, blk, List.append_nil]
    exact Ev.now _
  | succ d ih =>
    intro i acc hi hb
    have hlt : i < l.length := by omega
    have hz := oddE_zero (ho l[i] (List.getElem_mem _))
    rw [List.drop_eq_getElem_cons hlt] at hb ⊢
    have hrl : (l.drop (i + 1)).length = l.length - (i + 1) := List.length_drop
    generalize hm : l[i] = m at *
    generalize hr : l.drop (i + 1) = r at *
    rw [blk_cons] at hb ⊢
    refine Ev.step (fun k => meta_Pack.l1.eq_2 ..) ?_
    refine evT (by omega) ?_
    refine evT (by omega) ?_
    refine evT (by omega) ?_
    rw [getT l i hlt, hm, okK, z_dec]
    by_cases c : ((m.f0 == 0) != decide (i = 0)) = true
    · rw [if_pos c, if_neg (by decide)]
      exact evT c (Ev.now _)
    rw [if_neg c]
    refine evF c ?_
    rw [List.length_append, List.length_append] at hb
    simp only [List.length_cons, List.length_nil] at hb
    have key : ∀ (b : Int), b = m.f0 + (if r.length = 0 then 128 else 0) → Ev (fun k => (some ([b, ((m.f1.length : Int) / 65536) % 256, ((m.f1.length : Int) / 256) % 256, ((m.f1.length : Int)) % 256] : List Int)).bind fun y113 => (if acc.length + y113.length < 140737488355328 then ((some (acc ++ y113 : List Int)).bind fun y116 => (if y116.length + (m.f1).length < 140737488355328 then (meta_Pack.l1 k l (y116 ++ m.f1) l (l.length : Int) (wrap64 ((i : Int) + 1))) else (none))) else (none)))
        (if okK false r = true then (acc ++ ([m.f0 + (if r.length = 0 then 128 else 0), ((m.f1.length : Int) / 65536) % 256, ((m.f1.length : Int) / 256) % 256, ((m.f1.length : Int)) % 256] ++ m.f1 ++ blk r), 0) else ([], 5)) := by
      intro b e
      refine evC rfl ?_
      refine evT (by simp only [List.length_cons, List.length_nil]; omega) ?_
      refine evC rfl ?_
      refine evT (by simp only [List.length_append, List.length_cons, List.length_nil]; omega) ?_
      rw [wr _ (by omega)]
      have := ih (i + 1) ((acc ++ [b, ((m.f1.length : Int) / 65536) % 256, ((m.f1.length : Int) / 256) % 256, ((m.f1.length : Int)) % 256]) ++ m.f1) (by omega) (by rw [hr]; simp only [List.length_append, List.length_cons, List.length_nil]; omega)
      rw [hr, decide_eq_false (by omega), e] at this
      rw [e]
      refine evR this ?_
      simp only [List.append_assoc]
    rw [wr ((l.length : Int) - 1) (by omega)]
    by_cases c2 : (i : Int) = (l.length : Int) - 1
    · refine evT c2 ?_
      refine key _ ?_
      rw [if_pos (by omega), or128 _ (by omega)]
      omega
    · refine evF c2 ?_
      refine key _ ?_
      rw [if_neg (by omega)]
      omega
theorem pack_ev (l : List S24) (hl : l.length ≤ 100000000) (hb : 4 + (blk l).length ≤ 100000000) : Ev (fun k => meta_Pack.f k l) (packP l) := by
  unfold meta_Pack.f packP
  by_cases h : l.length = 0
  · rw [if_pos h]
    exact evT (by omega) (Ev.now _)
  rw [if_neg h]
  refine evF (by omega) ?_
  refine pack0 l hl _ l.length 0 (by omega) ?_ ?_
  · intro h0
    rw [List.drop_zero] at h0
    unfold packL
    rw [if_pos h0]
    have := pack1 l hl (oddL_zero h0) l.length 0 [102, 76, 97, 67] (by omega) (by rw [List.drop_zero]; simp only [List.length_cons, List.length_nil]; omega)
    rw [List.drop_zero, decide_eq_true rfl] at this
    exact this
  · intro h0
    rw [List.drop_zero] at h0 ⊢
    unfold packL
    rw [if_neg h0]
theorem few1 (l : List S24) (hl : l.length ≤ maxLen) (d : Nat) : ∀ i : Nat, i + d = l.length → ∃ b, Ev (fun k => serinetteref18_Few.l0 k l (i : Int)) b ∧ (b = true → l.length ≤ 10 ∧ ∀ m ∈ l.drop i, m.f1.length ≤ 200) := by
  have hmx : maxLen = 9223372036854775807 := by decide
  induction d with
  | zero =>
    intro i hi
    refine ⟨_, Ev.step (fun k => serinetteref18_Few.l0.eq_2 ..) (evF (by omega) (Ev.now _)), ?_⟩
    intro h
    rw [List.drop_eq_nil_of_le (by omega)]
    have := of_decide_eq_true h
    exact ⟨by omega, by simp⟩
  | succ d ih =>
    intro i hi
    have hlt : i < l.length := by omega
    by_cases c : (l[i].f1.length : Int) > 200
    · refine ⟨false, Ev.step (fun k => serinetteref18_Few.l0.eq_2 ..) (evT (by omega) (evT (by omega) ?_)), by simp⟩
      rw [getT l i hlt]
      exact evT c (Ev.now _)
    · obtain ⟨b, h1, h2⟩ := ih (i + 1) (by omega)
      refine ⟨b, Ev.step (fun k => serinetteref18_Few.l0.eq_2 ..) (evT (by omega) (evT (by omega) ?_)), ?_⟩
      · rw [getT l i hlt]
        refine evF c ?_
        rw [wr _ (by omega)]
        exact h1
      · intro h
        obtain ⟨h3, h4⟩ := h2 h
        refine ⟨h3, ?_⟩
        rw [List.drop_eq_getElem_cons hlt]
        intro m hm
        rcases List.mem_cons.1 hm with rfl | hm
        · omega
        · exact h4 m hm
theorem few_ev (l : List S24) (hl : l.length ≤ maxLen) : ∃ b, Ev (fun k => serinetteref18_Few.f k l) b ∧ (b = true → l.length ≤ 10 ∧ ∀ m ∈ l, m.f1.length ≤ 200) := few1 l hl l.length 0 (by omega)
theorem blk_len : ∀ (l : List S24) (c : Nat), (∀ m ∈ l, m.f1.length ≤ c) → (blk l).length ≤ l.length * (4 + c)
  | [], _, _ => by simp [blk]
  | m :: r, c, h => by
    have h1 := blk_len r c fun x hx => h x (by simp [hx])
    have h2 := h m (by simp)
    rw [blk_cons, List.length_append, List.length_append]
    simp only [List.length_cons, List.length_nil]
    rw [Nat.add_mul]
    omega
end Go.Proofs.Ytpeejdmbnlhjmaa.FMetaSizes
