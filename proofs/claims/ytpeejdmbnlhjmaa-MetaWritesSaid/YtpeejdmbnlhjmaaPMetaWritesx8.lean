/- The statement MetaWrites's own function as a plain one, with the proof that the program's call comes to it. For any arguments. -/
import Derived.Test.YtpeejdmbnlhjmaaPMetaWritesx7
import Derived.Outline
import Derived.Deep.WholeRow
namespace Go.Proofs.Ytpeejdmbnlhjmaa.PMetaWrites
open Go.RowKit Go.Proofs.YtpeejdmbnlhjmaaW.PrintWords Go.Proofs.YtpeejdmbnlhjmaaW.PrintLast Go.Proofs.YtpeejdmbnlhjmaaW.PrintMore Go.Proofs.Ytpeejdmbnlhjmaa.H Go.Proofs.Ytpeejdmbnlhjmaa.H Go.Proofs.Ytpeejdmbnlhjmaa.H
attribute [local go_sem] max2_int min2_int max_two min_two max_three min_three max_four min_four   -- for this text's walks alone
set_option linter.unusedVariables false
set_option linter.unusedSimpArgs false
set_option maxHeartbeats 16000000 in
set_option maxRecDepth 100000 in
theorem writes_guard (k : Nat) (a0_0 a0_1 a0_2 a0_3 a0_4 a0_5 a0_6 a0_7 a0_8 a0_9 a0_10 a0_11 a0_12 a0_13 a0_14 a0_15 a0_16 a0_17 a0_18 a0_19 a0_20 a0_21 a0_22 a0_23 a1 : Int) (A2 : Option Addr) (c2 : Nat) (l2 : List S122) (a3_0 : ByteArray) (A3_1 : Option Addr) (c3_1 : Nat) (l3_1 : List ByteArray) (a4_0 : Int) (A4_1 : Option Addr) (c4_1 : Nat) (l4_1 : List Int) (w : World) (hr3 : Kd.C Kd.string w A3_1 l3_1.length l3_1) (hc3 : l3_1.length ≤ c3_1) (b : Bool) (hs : serinettelaw18_shortly.f k a3_0 l3_1 = some b) (g : (l2.length : Int) > 20 ∨ b = false ∨ (a1 > 300 ∧ a1 ≤ 16777215) ∨ (l4_1.length : Int) > 200) : Calls Try.prog 5 #[.agg #[.int .i64 a0_0, .int .i64 a0_1, .int .i64 a0_2, .int .i64 a0_3, .int .i64 a0_4, .int .i64 a0_5, .int .i64 a0_6, .int .i64 a0_7, .int .u8 a0_8, .int .u8 a0_9, .int .u8 a0_10, .int .u8 a0_11, .int .u8 a0_12, .int .u8 a0_13, .int .u8 a0_14, .int .u8 a0_15, .int .u8 a0_16, .int .u8 a0_17, .int .u8 a0_18, .int .u8 a0_19, .int .u8 a0_20, .int .u8 a0_21, .int .u8 a0_22, .int .u8 a0_23], .int .i64 a1, .slice A2 l2.length c2, .agg #[.string a3_0, .slice A3_1 l3_1.length c3_1], .agg #[.int .i64 a4_0, .slice A4_1 l4_1.length c4_1]] w (BoolTo w true) := by
  obtain ⟨i, hi⟩ : ∃ i : Inf, i = ⟨a0_0, a0_1, a0_2, a0_3, a0_4, a0_5, a0_6, a0_7, a0_8, a0_9, a0_10, a0_11, a0_12, a0_13, a0_14, a0_15, a0_16, a0_17, a0_18, a0_19, a0_20, a0_21, a0_22, a0_23⟩ := ⟨_, rfl⟩
  have e5 : (.agg #[.int .i64 a0_0, .int .i64 a0_1, .int .i64 a0_2, .int .i64 a0_3, .int .i64 a0_4, .int .i64 a0_5, .int .i64 a0_6, .int .i64 a0_7, .int .u8 a0_8, .int .u8 a0_9, .int .u8 a0_10, .int .u8 a0_11, .int .u8 a0_12, .int .u8 a0_13, .int .u8 a0_14, .int .u8 a0_15, .int .u8 a0_16, .int .u8 a0_17, .int .u8 a0_18, .int .u8 a0_19, .int .u8 a0_20, .int .u8 a0_21, .int .u8 a0_22, .int .u8 a0_23] : Value) = .agg (icells i) := by rw [hi]
  rw [e5]
  have HS := Aside0.mk hs
  have HR3 := Aside0.mk hr3
  have HC3 := Aside0.mk hc3
  have HI := Aside0.mk hi
  obtain ⟨W0, hW0⟩ : ∃ W0 : World, W0 = ((w.alloc (.cells (icells i) 31)).alloc (.cells #[.string a3_0, .slice A3_1 l3_1.length c3_1] 36)).alloc (.cells #[.int .i64 a4_0, .slice A4_1 l4_1.length c4_1] 24) := ⟨_, rfl⟩
  have B0 : Aside0 (Below w.heap.size w W0) := ⟨by rw [hW0]; exact below_alloc (below_alloc (below_alloc (Below.refl _ _) _) _) _⟩
  have Z1 : (w.alloc (.cells (icells i) 31)).heap.size = w.heap.size + 1 := Array.size_push ..
  have Z2 : ((w.alloc (.cells (icells i) 31)).alloc (.cells #[.string a3_0, .slice A3_1 l3_1.length c3_1] 36)).heap.size = w.heap.size + 1 + 1 := (Array.size_push ..).trans (by rw [Z1])
  have K2 : Aside0 (W0.heap[w.heap.size + 1]? = some (.cells #[.string a3_0, .slice A3_1 l3_1.length c3_1] 36 (0, 0))) := ⟨by have := blk_alloc (blk_new (w.alloc (.cells (icells i) 31)) (.cells #[.string a3_0, .slice A3_1 l3_1.length c3_1] 36)) (.cells #[.int .i64 a4_0, .slice A4_1 l4_1.length c4_1] 24); rw [Z1] at this; rw [hW0]; exact this⟩
  have K3 : Aside0 (W0.heap[w.heap.size + 1 + 1]? = some (.cells #[.int .i64 a4_0, .slice A4_1 l4_1.length c4_1] 24 (0, 0))) := ⟨by have := blk_new ((w.alloc (.cells (icells i) 31)).alloc (.cells #[.string a3_0, .slice A3_1 l3_1.length c3_1] 36)) (.cells #[.int .i64 a4_0, .slice A4_1 l4_1.length c4_1] 24); rw [Z2] at this; rw [hW0]; exact this⟩
  have HW0 := Aside0.mk hW0
  have G := Aside0.mk g
  clear hs hr3 hc3 hi e5 g Z1 Z2 hW0
  go_enter Try.func5, Try.ntmps5
  go_upto_region 1 with fail
  rw [← HW0.out]
  go_upto_region 2 with (first | (go_at_call 16; (with_reducible refine (awake18_calls _).mono ?_); rintro e' w1 ⟨rfl, hb⟩; have HB1 := Aside0.mk hb; clear hb))
  have x0 : w1.cell? ⟨w.heap.size + 1, 0, none⟩ = some (.string a3_0) := (blk_cell (blk_below K2.out HB1.out) 0).trans rfl
  have x1 : w1.cell? ⟨w.heap.size + 1, 1, none⟩ = some (.slice A3_1 l3_1.length c3_1) := (blk_cell (blk_below K2.out HB1.out) 1).trans rfl
  go_upto_region 3 with (first | (go_at_call 26; (with_reducible refine (serinettelaw18_shortly.calls k a3_0 A3_1 c3_1 l3_1 b _ (Kd.C_below HR3.out (below_step B0.out HB1.out)) HC3.out HS.out).mono ?_); rintro e' w2 ⟨rfl, hb⟩; have HB2 := Aside0.mk (below_step HB1.out hb); clear hb x0 x1 HB1))
  have y1 : w2.cell? ⟨w.heap.size + 1 + 1, 1, none⟩ = some (.slice A4_1 l4_1.length c4_1) := (blk_cell (blk_below K3.out HB2.out) 1).trans rfl
  have HE := Aside0.mk (below_step B0.out HB2.out)
  clear HW0 HS K2
  by_cases hq : (l2.length : Int) > 20
  · have q1 : decide ((l2.length : Int) > 20) = true := decide_eq_true hq
    have q2 : decide (20 < (l2.length : Int)) = true := q1
    have q3 : decide (20 < l2.length) = true := decide_eq_true (by omega)
    clear hq G
    go_wp2_with fail
    go_ret
    exact ⟨rfl, HE.out⟩
  have q1 : decide ((l2.length : Int) > 20) = false := decide_eq_false hq
  have q2 : decide (20 < (l2.length : Int)) = false := q1
  have q3 : decide (20 < l2.length) = false := decide_eq_false (by omega)
  have n1 := Aside0.mk hq
  clear hq
  cases b
  case false =>
    clear G
    go_wp2_with fail
    go_ret
    exact ⟨rfl, HE.out⟩
  by_cases hp : a1 > 300 ∧ a1 ≤ 16777215
  · have p1 : decide (a1 > 300) = true := decide_eq_true hp.1
    have p2 : decide (300 < a1) = true := p1
    have p3 : decide (a1 ≤ 16777215) = true := decide_eq_true hp.2
    clear hp G
    go_wp2_with fail
    go_ret
    exact ⟨rfl, HE.out⟩
  have hl : (l4_1.length : Int) > 200 := by
    rcases G.out with h | h | h | h
    · exact absurd h n1.out
    · cases h
    · exact absurd h hp
    · exact h
  have r1 : decide ((l4_1.length : Int) > 200) = true := decide_eq_true hl
  have r2 : decide (200 < (l4_1.length : Int)) = true := r1
  have r3 : decide (200 < l4_1.length) = true := decide_eq_true (by omega)
  clear hl G
  by_cases h3 : a1 > 300
  · have p1 : decide (a1 > 300) = true := decide_eq_true h3
    have p2 : decide (300 < a1) = true := p1
    have p3 : decide (a1 ≤ 16777215) = false := decide_eq_false (fun h => hp ⟨h3, h⟩)
    clear hp h3
    go_wp2_with fail
    go_ret
    exact ⟨rfl, HE.out⟩
  · have p1 : decide (a1 > 300) = false := decide_eq_false h3
    have p2 : decide (300 < a1) = false := p1
    clear hp h3
    go_wp2_with fail
    go_ret
    exact ⟨rfl, HE.out⟩
def gate2 (o x : Option Bool) : Option Bool := o.bind fun q => if q = true then x else none
theorem gate2_some {o x : Option Bool} {r : Bool} (h : gate2 o x = some r) : o = some true ∧ x = some r := by
  unfold gate2 at h
  obtain ⟨q, h1, h2⟩ := Option.bind_eq_some_iff.mp h
  split at h2
  · rename_i hq
    subst hq
    exact ⟨h1, h2⟩
  · cases h2
/-- Any block beside the document's word. -/
def lastF (k : Nat) (m : Int × List Int × Int) (e a4 : Int) (l4 : List Int) : Option Bool := if m.2.2 = e then (if e = 0 then (if m.1 = a4 then serinetteref01_Same.f k m.2.1 l4 else none) else some true) else none
theorem last_of {k : Nat} {m : Int × List Int × Int} {e a4 : Int} {l4 : List Int} (h : lastF k m e a4 l4 = some true) : m.2.2 = e ∧ (e = 0 → m.1 = a4 ∧ serinetteref01_Same.f k m.2.1 l4 = some true) := by
  unfold lastF at h
  split at h
  · rename_i h1
    refine ⟨h1, fun he => ?_⟩
    rw [if_pos he] at h
    split at h
    · rename_i h2
      exact ⟨h2, h⟩
    · cases h
  · cases h
def serinettelaw18_MetaWrites.f (k : Nat) (a0_0 a0_1 a0_2 a0_3 a0_4 a0_5 a0_6 a0_7 a0_8 a0_9 a0_10 a0_11 a0_12 a0_13 a0_14 a0_15 a0_16 a0_17 a0_18 a0_19 a0_20 a0_21 a0_22 a0_23 a1 : Int) (l2 : List S122) (a3_0 : ByteArray) (l3_1 : List ByteArray) (a4_0 : Int) (l4_1 : List Int) : Option Bool :=
  (serinettelaw18_shortly.f k a3_0 l3_1).bind fun sh => if (l2.length : Int) > 20 ∨ sh = false ∨ (a1 > 300 ∧ a1 ≤ 16777215) ∨ (l4_1.length : Int) > 200 then some true else
  (meta_Info.f k a0_0 a0_1 a0_2 a0_3 a0_4 a0_5 a0_6 a0_7 a0_8 a0_9 a0_10 a0_11 a0_12 a0_13 a0_14 a0_15 a0_16 a0_17 a0_18 a0_19 a0_20 a0_21 a0_22 a0_23).bind fun m1 => (serinetteref18_InfoRight.f k a0_0 a0_1 a0_2 a0_3 a0_4 a0_5 a0_6 a0_7 a0_8 a0_9 a0_10 a0_11 a0_12 a0_13 a0_14 a0_15 a0_16 a0_17 a0_18 a0_19 a0_20 a0_21 a0_22 a0_23).bind fun b1 => gate2 (secF k 0 b1 m1 (serinetteref18_InfoBody.f k a0_0 a0_1 a0_2 a0_3 a0_4 a0_5 a0_6 a0_7 a0_8 a0_9 a0_10 a0_11 a0_12 a0_13 a0_14 a0_15 a0_16 a0_17 a0_18 a0_19 a0_20 a0_21 a0_22 a0_23)) (
  (meta_Pad.f a1).bind fun m2 => gate2 (secF k 1 (decide (0 ≤ a1 ∧ a1 ≤ 16777215)) m2 (some (List.replicate a1.toNat 0))) (
  (meta_Seek.f k l2).bind fun m3 => (serinetteref18_SeekRight.f k l2).bind fun b3 => gate2 (secF k 3 b3 m3 (serinetteref18_SeekBody.f k l2)) (
  (meta_Comment.f a3_0 l3_1).bind fun m4 => (serinetteref18_CommentRight.f k a3_0 l3_1).bind fun b4 => gate2 (secF k 4 b4 m4 (serinetteref18_CommentBody.f a3_0 l3_1)) (
  (meta_Other.f k a4_0 l4_1).bind fun m5 => (serinetteref18_Odd.f k a4_0 l4_1).bind fun e5 => gate2 (lastF k m5 e5 a4_0 l4_1) (some true)))))
theorem serinettelaw18_MetaWrites.calls (k : Nat) (a0_0 a0_1 a0_2 a0_3 a0_4 a0_5 a0_6 a0_7 a0_8 a0_9 a0_10 a0_11 a0_12 a0_13 a0_14 a0_15 a0_16 a0_17 a0_18 a0_19 a0_20 a0_21 a0_22 a0_23 a1 : Int) (A2 : Option Addr) (c2 : Nat) (l2 : List S122) (a3_0 : ByteArray) (A3_1 : Option Addr) (c3_1 : Nat) (l3_1 : List ByteArray) (a4_0 : Int) (A4_1 : Option Addr) (c4_1 : Nat) (l4_1 : List Int) (r : Bool) (w : World) (hr2 : Kd.C k122 w A2 l2.length l2) (hc2 : l2.length ≤ c2) (hr3_1 : Kd.C Kd.string w A3_1 l3_1.length l3_1) (hc3_1 : l3_1.length ≤ c3_1) (hr4_1 : Kd.C (Kd.int .u8) w A4_1 l4_1.length l4_1) (hc4_1 : l4_1.length ≤ c4_1) (h : serinettelaw18_MetaWrites.f k a0_0 a0_1 a0_2 a0_3 a0_4 a0_5 a0_6 a0_7 a0_8 a0_9 a0_10 a0_11 a0_12 a0_13 a0_14 a0_15 a0_16 a0_17 a0_18 a0_19 a0_20 a0_21 a0_22 a0_23 a1 l2 a3_0 l3_1 a4_0 l4_1 = some r) :
    Calls Try.prog 5 #[.agg #[.int .i64 a0_0, .int .i64 a0_1, .int .i64 a0_2, .int .i64 a0_3, .int .i64 a0_4, .int .i64 a0_5, .int .i64 a0_6, .int .i64 a0_7, .int .u8 a0_8, .int .u8 a0_9, .int .u8 a0_10, .int .u8 a0_11, .int .u8 a0_12, .int .u8 a0_13, .int .u8 a0_14, .int .u8 a0_15, .int .u8 a0_16, .int .u8 a0_17, .int .u8 a0_18, .int .u8 a0_19, .int .u8 a0_20, .int .u8 a0_21, .int .u8 a0_22, .int .u8 a0_23], .int .i64 a1, .slice A2 l2.length c2, .agg #[.string a3_0, .slice A3_1 l3_1.length c3_1], .agg #[.int .i64 a4_0, .slice A4_1 l4_1.length c4_1]] w fun e w' => e = .returned (.bool r) ∧ Below w.heap.size w w' := by
  unfold serinettelaw18_MetaWrites.f at h
  obtain ⟨sh, hs, h⟩ := Option.bind_eq_some_iff.mp h
  split at h
  · rename_i hg
    cases h
    exact writes_guard k a0_0 a0_1 a0_2 a0_3 a0_4 a0_5 a0_6 a0_7 a0_8 a0_9 a0_10 a0_11 a0_12 a0_13 a0_14 a0_15 a0_16 a0_17 a0_18 a0_19 a0_20 a0_21 a0_22 a0_23 a1 A2 c2 l2 a3_0 A3_1 c3_1 l3_1 a4_0 A4_1 c4_1 l4_1 w hr3_1 hc3_1 sh hs hg
  · rename_i hg
    obtain ⟨m1, h1, h⟩ := Option.bind_eq_some_iff.mp h
    obtain ⟨b1, i1, h⟩ := Option.bind_eq_some_iff.mp h
    obtain ⟨s1, h⟩ := gate2_some h
    obtain ⟨m2, h2, h⟩ := Option.bind_eq_some_iff.mp h
    obtain ⟨s2, h⟩ := gate2_some h
    obtain ⟨m3, h3, h⟩ := Option.bind_eq_some_iff.mp h
    obtain ⟨b3, i3, h⟩ := Option.bind_eq_some_iff.mp h
    obtain ⟨s3, h⟩ := gate2_some h
    obtain ⟨m4, h4, h⟩ := Option.bind_eq_some_iff.mp h
    obtain ⟨b4, i4, h⟩ := Option.bind_eq_some_iff.mp h
    obtain ⟨s4, h⟩ := gate2_some h
    obtain ⟨m5, h5, h⟩ := Option.bind_eq_some_iff.mp h
    obtain ⟨e5, i5, h⟩ := Option.bind_eq_some_iff.mp h
    obtain ⟨s5, h⟩ := gate2_some h
    cases h
    obtain rfl : sh = true := by
      cases sh
      · exact absurd (Or.inr (Or.inl rfl)) hg
      · rfl
    exact writes_main k a0_0 a0_1 a0_2 a0_3 a0_4 a0_5 a0_6 a0_7 a0_8 a0_9 a0_10 a0_11 a0_12 a0_13 a0_14 a0_15 a0_16 a0_17 a0_18 a0_19 a0_20 a0_21 a0_22 a0_23 a1 A2 c2 l2 a3_0 A3_1 c3_1 l3_1 a4_0 A4_1 c4_1 l4_1 w hr2 hc2 hr3_1 hc3_1 hr4_1 hc4_1 (by have := mt Or.inl hg; omega) (fun q => hg (Or.inr (Or.inr (Or.inl q)))) (by have : ¬ (l4_1.length : Int) > 200 := fun q => hg (Or.inr (Or.inr (Or.inr q))); omega) hs m1 b1 h1 i1 (sec_of s1) m2 h2 (sec_of s2) m3 b3 h3 i3 (sec_of s3) m4 b4 h4 i4 (sec_of s4) m5 e5 h5 i5 (last_of s5)

/-- The one pure statement (lawrow.py). -/
def serinettelaw18_MetaWrites.Pure : Prop := ∀ (a0_0 : Int) (a0_1 : Int) (a0_2 : Int) (a0_3 : Int) (a0_4 : Int) (a0_5 : Int) (a0_6 : Int) (a0_7 : Int) (a0_8 : Int) (a0_9 : Int) (a0_10 : Int) (a0_11 : Int) (a0_12 : Int) (a0_13 : Int) (a0_14 : Int) (a0_15 : Int) (a0_16 : Int) (a0_17 : Int) (a0_18 : Int) (a0_19 : Int) (a0_20 : Int) (a0_21 : Int) (a0_22 : Int) (a0_23 : Int) (a1 : Int) (l2 : List Go.Proofs.Ytpeejdmbnlhjmaa.H.S122) (a3_0 : ByteArray) (l3_1 : List ByteArray) (a4_0 : Int) (l4_1 : List Int), (Lit.int .i64 a0_0).wf = true → (Lit.int .i64 a0_1).wf = true → (Lit.int .i64 a0_2).wf = true → (Lit.int .i64 a0_3).wf = true → (Lit.int .i64 a0_4).wf = true → (Lit.int .i64 a0_5).wf = true → (Lit.int .i64 a0_6).wf = true → (Lit.int .i64 a0_7).wf = true → (Lit.int .u8 a0_8).wf = true → (Lit.int .u8 a0_9).wf = true → (Lit.int .u8 a0_10).wf = true → (Lit.int .u8 a0_11).wf = true → (Lit.int .u8 a0_12).wf = true → (Lit.int .u8 a0_13).wf = true → (Lit.int .u8 a0_14).wf = true → (Lit.int .u8 a0_15).wf = true → (Lit.int .u8 a0_16).wf = true → (Lit.int .u8 a0_17).wf = true → (Lit.int .u8 a0_18).wf = true → (Lit.int .u8 a0_19).wf = true → (Lit.int .u8 a0_20).wf = true → (Lit.int .u8 a0_21).wf = true → (Lit.int .u8 a0_22).wf = true → (Lit.int .u8 a0_23).wf = true → (Lit.int .i64 a1).wf = true → l2.length ≤ maxLen → (∀ x ∈ l2, (Lit.int .i64 x.f0).wf = true ∧ (Lit.int .i64 x.f1).wf = true ∧ (Lit.int .i64 x.f2).wf = true) → a3_0.size ≤ maxLen → l3_1.length ≤ maxLen → (∀ x ∈ l3_1, x.size ≤ maxLen) → (Lit.int .i64 a4_0).wf = true → l4_1.length ≤ maxLen → (∀ x ∈ l4_1, (Lit.int .u8 x).wf = true) → ∃ k, serinettelaw18_MetaWrites.f k a0_0 a0_1 a0_2 a0_3 a0_4 a0_5 a0_6 a0_7 a0_8 a0_9 a0_10 a0_11 a0_12 a0_13 a0_14 a0_15 a0_16 a0_17 a0_18 a0_19 a0_20 a0_21 a0_22 a0_23 a1 l2 a3_0 l3_1 a4_0 l4_1 = some true
theorem serinettelaw18_MetaWrites.walk (P : serinettelaw18_MetaWrites.Pure) (a0_0 : Int) (a0_1 : Int) (a0_2 : Int) (a0_3 : Int) (a0_4 : Int) (a0_5 : Int) (a0_6 : Int) (a0_7 : Int) (a0_8 : Int) (a0_9 : Int) (a0_10 : Int) (a0_11 : Int) (a0_12 : Int) (a0_13 : Int) (a0_14 : Int) (a0_15 : Int) (a0_16 : Int) (a0_17 : Int) (a0_18 : Int) (a0_19 : Int) (a0_20 : Int) (a0_21 : Int) (a0_22 : Int) (a0_23 : Int) (a1 : Int) (l2 : List Go.Proofs.Ytpeejdmbnlhjmaa.H.S122) (a3_0 : ByteArray) (l3_1 : List ByteArray) (a4_0 : Int) (l4_1 : List Int) (w : World) (wa0_0 : (Lit.int .i64 a0_0).wf = true) (wa0_1 : (Lit.int .i64 a0_1).wf = true) (wa0_2 : (Lit.int .i64 a0_2).wf = true) (wa0_3 : (Lit.int .i64 a0_3).wf = true) (wa0_4 : (Lit.int .i64 a0_4).wf = true) (wa0_5 : (Lit.int .i64 a0_5).wf = true) (wa0_6 : (Lit.int .i64 a0_6).wf = true) (wa0_7 : (Lit.int .i64 a0_7).wf = true) (wa0_8 : (Lit.int .u8 a0_8).wf = true) (wa0_9 : (Lit.int .u8 a0_9).wf = true) (wa0_10 : (Lit.int .u8 a0_10).wf = true) (wa0_11 : (Lit.int .u8 a0_11).wf = true) (wa0_12 : (Lit.int .u8 a0_12).wf = true) (wa0_13 : (Lit.int .u8 a0_13).wf = true) (wa0_14 : (Lit.int .u8 a0_14).wf = true) (wa0_15 : (Lit.int .u8 a0_15).wf = true) (wa0_16 : (Lit.int .u8 a0_16).wf = true) (wa0_17 : (Lit.int .u8 a0_17).wf = true) (wa0_18 : (Lit.int .u8 a0_18).wf = true) (wa0_19 : (Lit.int .u8 a0_19).wf = true) (wa0_20 : (Lit.int .u8 a0_20).wf = true) (wa0_21 : (Lit.int .u8 a0_21).wf = true) (wa0_22 : (Lit.int .u8 a0_22).wf = true) (wa0_23 : (Lit.int .u8 a0_23).wf = true) (wa1 : (Lit.int .i64 a1).wf = true) (A2 : Option Addr) (c2 : Nat) (hr2 : Kd.C Go.Proofs.Ytpeejdmbnlhjmaa.H.k122 w A2 l2.length l2) (hc2 : l2.length ≤ c2) (hm2 : l2.length ≤ maxLen) (hw2 : ∀ x ∈ l2, (Lit.int .i64 x.f0).wf = true ∧ (Lit.int .i64 x.f1).wf = true ∧ (Lit.int .i64 x.f2).wf = true) (wa3_0 : a3_0.size ≤ maxLen) (A3_1 : Option Addr) (c3_1 : Nat) (hr3_1 : Kd.C Kd.string w A3_1 l3_1.length l3_1) (hc3_1 : l3_1.length ≤ c3_1) (hm3_1 : l3_1.length ≤ maxLen) (hw3_1 : ∀ x ∈ l3_1, x.size ≤ maxLen) (wa4_0 : (Lit.int .i64 a4_0).wf = true) (A4_1 : Option Addr) (c4_1 : Nat) (hr4_1 : Kd.C (Kd.int .u8) w A4_1 l4_1.length l4_1) (hc4_1 : l4_1.length ≤ c4_1) (hm4_1 : l4_1.length ≤ maxLen) (hw4_1 : ∀ x ∈ l4_1, (Lit.int .u8 x).wf = true) :
    Calls Try.prog 5 #[.agg #[.int .i64 a0_0, .int .i64 a0_1, .int .i64 a0_2, .int .i64 a0_3, .int .i64 a0_4, .int .i64 a0_5, .int .i64 a0_6, .int .i64 a0_7, .int .u8 a0_8, .int .u8 a0_9, .int .u8 a0_10, .int .u8 a0_11, .int .u8 a0_12, .int .u8 a0_13, .int .u8 a0_14, .int .u8 a0_15, .int .u8 a0_16, .int .u8 a0_17, .int .u8 a0_18, .int .u8 a0_19, .int .u8 a0_20, .int .u8 a0_21, .int .u8 a0_22, .int .u8 a0_23], .int .i64 a1, .slice A2 l2.length c2, .agg #[.string a3_0, .slice A3_1 l3_1.length c3_1], .agg #[.int .i64 a4_0, .slice A4_1 l4_1.length c4_1]] w fun e w' => e = .returned (.bool true) ∧ Below w.heap.size w w' := by
  obtain ⟨k, h⟩ := P a0_0 a0_1 a0_2 a0_3 a0_4 a0_5 a0_6 a0_7 a0_8 a0_9 a0_10 a0_11 a0_12 a0_13 a0_14 a0_15 a0_16 a0_17 a0_18 a0_19 a0_20 a0_21 a0_22 a0_23 a1 l2 a3_0 l3_1 a4_0 l4_1 wa0_0 wa0_1 wa0_2 wa0_3 wa0_4 wa0_5 wa0_6 wa0_7 wa0_8 wa0_9 wa0_10 wa0_11 wa0_12 wa0_13 wa0_14 wa0_15 wa0_16 wa0_17 wa0_18 wa0_19 wa0_20 wa0_21 wa0_22 wa0_23 wa1 hm2 hw2 wa3_0 hm3_1 hw3_1 wa4_0 hm4_1 hw4_1
  refine (serinettelaw18_MetaWrites.calls k a0_0 a0_1 a0_2 a0_3 a0_4 a0_5 a0_6 a0_7 a0_8 a0_9 a0_10 a0_11 a0_12 a0_13 a0_14 a0_15 a0_16 a0_17 a0_18 a0_19 a0_20 a0_21 a0_22 a0_23 a1 A2 c2 l2 a3_0 A3_1 c3_1 l3_1 a4_0 A4_1 c4_1 l4_1 true w hr2 hc2 hr3_1 hc3_1 hr4_1 hc4_1 h).mono ?_
  rintro e w' ⟨rfl, hd⟩
  exact ⟨rfl, hd⟩

end Go.Proofs.Ytpeejdmbnlhjmaa.PMetaWrites
