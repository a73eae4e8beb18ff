/- The statement MetaWrites: any value's block, or what is wrong with it, is as the document says: what a stream has, how much is padded, places, a comment, and any block itself. For up to twenty places; up to ten fields, texts of up to fifty bytes; a pad of up to three hundred bytes, or too long; a body of up to two hundred bytes. -/
import Derived.Test.YtpeejdmbnlhjmaaPMetaWritesx6
import Derived.Test.YtpeejdmbnlhjmaaPMetaWritesx8
import Derived.Test.YtpeejdmbnlhjmaaLAll
import Derived.Test.YtpeejdmbnlhjmaaFMetaWritesAll
namespace Go.Proofs.Ytpeejdmbnlhjmaa.Pure
open Go.RowKit Go.Proofs.YtpeejdmbnlhjmaaW.PrintWords Go.Proofs.YtpeejdmbnlhjmaaW.PrintLast Go.Proofs.Ytpeejdmbnlhjmaa.PMetaWrites Go.Proofs.Ytpeejdmbnlhjmaa.H Go.Proofs.Ytpeejdmbnlhjmaa.L Go.Proofs.Ytpeejdmbnlhjmaa.FMetaWrites
set_option linter.unusedVariables false
set_option linter.unusedSimpArgs false
theorem gate2_ev {o x : Nat → Option Bool} {r : Bool} (h : Ev o true) (h' : Ev x r) : Ev (fun k => gate2 (o k) (x k)) r := by
  unfold gate2
  refine evB h ?_
  exact evT rfl h'
/-- One value's section holds. -/
theorem sec_ev {K : Int} {b : Bool} {l : List Int} {body : Nat → Option (List Int)} (hl : l.length ≤ 1000000000) (hb : b = true → Ev body l) : Ev (fun k => secF k K b (H.selI b K 0, H.selL b l, H.selI b 0 6) (body k)) true := by
  unfold secF
  cases b
  · refine evF (by decide) ?_
    refine evT rfl ?_
    exact evT rfl (Ev.now _)
  · refine evT rfl ?_
    refine evT rfl ?_
    refine evT rfl ?_
    refine evB (hb rfl) ?_
    exact same_ev l hl
theorem infoL_len (i : H.Inf) : (H.infoL i).length ≤ 1000000000 := by
  have h := (infoW_val i).2.1
  unfold H.infoL
  rw [List.length_append, h]
  show 18 + (H.Inf.ds i).length ≤ _
  unfold H.Inf.ds
  simp
theorem MetaWrites : serinettelaw18_MetaWrites.Pure := by
  intro a0_0 a0_1 a0_2 a0_3 a0_4 a0_5 a0_6 a0_7 a0_8 a0_9 a0_10 a0_11 a0_12 a0_13 a0_14 a0_15 a0_16 a0_17 a0_18 a0_19 a0_20 a0_21 a0_22 a0_23 a1 l2 a3_0 l3_1 a4_0 l4_1
  intros
  refine Ev.rounds ?_
  unfold serinettelaw18_MetaWrites.f
  have hM : (maxLen : Nat) = 9223372036854775807 := rfl
  refine evB (shortly_ev a3_0 l3_1 (by assumption)) ?_
  by_cases g : (l2.length : Int) > 20 ∨ (decide ((∀ x ∈ l3_1, x.size ≤ 50) ∧ l3_1.length ≤ 10 ∧ a3_0.size ≤ 50)) = false ∨ (a1 > 300 ∧ a1 ≤ 16777215) ∨ (l4_1.length : Int) > 200
  · exact evT g (Ev.now _)
  refine evF g ?_
  have g1 : l2.length ≤ 20 := by have := mt Or.inl g; omega
  obtain ⟨g2, g3, g4⟩ : (∀ x ∈ l3_1, x.size ≤ 50) ∧ l3_1.length ≤ 10 ∧ a3_0.size ≤ 50 := by
    by_cases q : (∀ x ∈ l3_1, x.size ≤ 50) ∧ l3_1.length ≤ 10 ∧ a3_0.size ≤ 50
    · exact q
    · exact absurd (Or.inr (Or.inl (decide_eq_false q))) g
  have g5 : ¬ (a1 > 300 ∧ a1 ≤ 16777215) := fun q => g (Or.inr (Or.inr (Or.inl q)))
  have g6 : l4_1.length ≤ 200 := by have : ¬ (l4_1.length : Int) > 200 := fun q => g (Or.inr (Or.inr (Or.inr q))); omega
  -- what a stream has
  obtain ⟨b1, hb1⟩ : ∃ b1 : Bool, b1 = true ↔ (1 ≤ a0_0 ∧ a0_0 ≤ a0_1 ∧ a0_1 ≤ 65535 ∧ 0 ≤ a0_2 ∧ a0_2 ≤ 16777215 ∧ 0 ≤ a0_3 ∧ a0_3 ≤ 16777215 ∧ 1 ≤ a0_4 ∧ a0_4 ≤ 1048575 ∧ 1 ≤ a0_5 ∧ a0_5 ≤ 8 ∧ 4 ≤ a0_6 ∧ a0_6 ≤ 32 ∧ 0 ≤ a0_7 ∧ a0_7 ≤ 68719476735) := ⟨decide _, decide_eq_true_iff⟩
  refine evB (a := (H.selI b1 0 0, H.selL b1 (H.infoL ⟨a0_0, a0_1, a0_2, a0_3, a0_4, a0_5, a0_6, a0_7, a0_8, a0_9, a0_10, a0_11, a0_12, a0_13, a0_14, a0_15, a0_16, a0_17, a0_18, a0_19, a0_20, a0_21, a0_22, a0_23⟩), H.selI b1 0 6)) ?_ ?_
  · unfold H.meta_Info.f
    refine evB (own_info _ _ _ _ _ _ _ _ _ _ _ _ _ _ _ _ _ _ _ _ _ _ _ _ b1 hb1) ?_
    exact Ev.now _
  refine evB (ref_info _ _ _ _ _ _ _ _ _ _ _ _ _ _ _ _ _ _ _ _ _ _ _ _ b1 hb1) ?_
  refine gate2_ev (sec_ev (infoL_len _) (fun _ => infobody_ev ..)) ?_
  -- a pad
  refine evC (a := (H.selI (decide (0 ≤ a1 ∧ a1 ≤ 16777215)) 1 0, H.selL (decide (0 ≤ a1 ∧ a1 ≤ 16777215)) (List.replicate a1.toNat 0), H.selI (decide (0 ≤ a1 ∧ a1 ≤ 16777215)) 0 6)) ?_ ?_
  · unfold H.meta_Pad.f H.meta_padRight.f
    rw [within_b]
    rfl
  refine gate2_ev ?_ ?_
  · by_cases c : 0 ≤ a1 ∧ a1 ≤ 16777215
    · exact sec_ev (by rw [List.length_replicate]; omega) (fun _ => Ev.now _)
    · rw [decide_eq_false c]
      unfold secF
      refine evF (by decide) ?_
      refine evT rfl ?_
      exact evT rfl (Ev.now _)
  -- places
  obtain ⟨b3, hb3⟩ : ∃ b3 : Bool, b3 = true ↔ okAll none l2 := by
    by_cases q : okAll none l2
    · exact ⟨true, fun _ => q, fun _ => rfl⟩
    · exact ⟨false, fun h => absurd h (by decide), fun h => absurd h q⟩
  refine evB (a := (H.selI b3 3 0, H.selL b3 (H.seekW l2).1, H.selI b3 0 6)) ?_ ?_
  · unfold H.meta_Seek.f
    refine evT (by omega) ?_
    refine evB (own_right l2 g1 b3 hb3) ?_
    exact Ev.now _
  refine evB (ref_right l2 g1 b3 hb3) ?_
  refine gate2_ev ?_ ?_
  · cases b3
    · unfold secF
      refine evF (by decide) ?_
      refine evT rfl ?_
      exact evT rfl (Ev.now _)
    · have hp := okAll_pOk l2 none (hb3.mp rfl)
      have hE := seekbody_ev l2 g1 hp
      exact sec_ev (seekW_len l2 g1) (fun _ => hE)
  -- a comment
  have hsm : H.cSmallB a3_0 l3_1 = true := by
    unfold H.cSmallB
    rw [decide_eq_true (show a3_0.size ≤ 1000 by omega), decide_eq_true (show l3_1.length ≤ 1000 by omega), Bool.true_and, Bool.true_and, List.all_eq_true]
    intro x hx
    have := g2 x hx
    exact decide_eq_true (by omega)
  refine evC (a := (H.selI (H.crightP a3_0 l3_1) 4 0, H.selL (H.crightP a3_0 l3_1) (H.cbodyP a3_0 l3_1), H.selI (H.crightP a3_0 l3_1) 0 6)) ?_ ?_
  · unfold H.meta_Comment.f
    rw [if_pos hsm]
  refine evB (cright_ev a3_0 l3_1 g4 g3 g2) ?_
  refine gate2_ev (sec_ev ?_ (fun _ => ?_)) ?_
  · have := H.cbodyT_len a3_0 l3_1 (H.small_of hsm) l3_1.length (Nat.le_refl _)
    unfold H.cbodyP
    omega
  · unfold H.serinetteref18_CommentBody.f
    rw [if_pos hsm, cbody_eq a3_0 l3_1 g4 g3 g2]
    exact Ev.now _
  -- any block
  obtain ⟨e, he⟩ : ∃ e : Int, oddP a4_0 l4_1 = e := ⟨_, rfl⟩
  have h1 := own_odd a4_0 l4_1
  have h2 := ref_odd a4_0 l4_1
  rw [he] at h1 h2
  refine evB (a := (H.selI (decide (e = 0)) a4_0 0, H.selL (decide (e = 0)) l4_1, e)) ?_ ?_
  · unfold H.meta_Other.f
    refine evT (by omega) ?_
    refine evB h1 ?_
    exact Ev.now _
  refine evB h2 ?_
  refine gate2_ev ?_ (Ev.now _)
  unfold lastF
  refine evT rfl ?_
  by_cases c : e = 0
  · subst c
    refine evT rfl ?_
    refine evT rfl ?_
    exact same_ev l4_1 (by omega)
  · exact evF c (Ev.now _)
end Go.Proofs.Ytpeejdmbnlhjmaa.Pure
