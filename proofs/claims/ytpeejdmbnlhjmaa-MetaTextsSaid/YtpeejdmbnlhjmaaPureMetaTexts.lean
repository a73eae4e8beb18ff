/- The statement MetaTexts: whether any text, and any field, can be, is as the document says; a text is one just if its runes, put together, are it. For a text of up to a hundred bytes. -/
import Derived.Test.YtpeejdmbnlhjmaaPMetaTextsx3
import Derived.Test.YtpeejdmbnlhjmaaLUtext2
namespace Go.Proofs.Ytpeejdmbnlhjmaa.Pure
open Go.RowKit Go.Proofs.YtpeejdmbnlhjmaaW.PrintWords Go.Proofs.YtpeejdmbnlhjmaaW.PrintLast Go.Proofs.Ytpeejdmbnlhjmaa.PMetaTexts Go.Proofs.Ytpeejdmbnlhjmaa.H Go.Proofs.Ytpeejdmbnlhjmaa.L
set_option linter.unusedVariables false
set_option linter.unusedSimpArgs false
theorem dropu (s : ByteArray) (p : Nat) (h : p < s.size) : s.data.toList.drop p = s.get! p :: s.data.toList.drop (p + 1) := by
  have hl : p < s.data.toList.length := by rw [data_length]; exact h
  rw [List.drop_eq_getElem_cons hl]
  have e : s.get! p = s[p]'h := by
    simp [ByteArray.get!, getElem!_pos, h]
    rfl
  rw [e]
  rfl
theorem ext_drop (t : ByteArray) (p : Nat) : (t.extract p t.size).data.toList = t.data.toList.drop p := by
  rw [ByteArray.data_extract, Array.toList_extract, List.extract_eq_take_drop]
  refine List.take_of_length_le ?_
  rw [List.length_drop, data_length]
  exact Nat.le_refl _
theorem prefix_iff (t : ByteArray) (p : Nat) (hp : p < t.size) : Lib.hasPrefix (t.extract p t.size).data.toList [239, 191, 189] = true ↔ p + 3 ≤ t.size ∧ (t.get! p).toNat = 239 ∧ (t.get! (p + 1)).toNat = 191 ∧ (t.get! (p + 2)).toNat = 189 := by
  rw [ext_drop]
  by_cases h : p + 3 ≤ t.size
  · rw [dropu t p hp, dropu t (p + 1) (by omega), dropu t (p + 1 + 1) (by omega)]
    show (([239, 191, 189] : List UInt8).isPrefixOf _) = true ↔ _
    simp only [List.isPrefixOf, Bool.and_eq_true, beq_iff_eq, Bool.and_true]
    constructor
    · rintro ⟨h1, h2, h3⟩
      rw [← h1, ← h2]
      refine ⟨h, rfl, rfl, ?_⟩
      rw [show p + 1 + 1 = p + 2 from rfl] at h3
      rw [← h3]
      rfl
    · rintro ⟨_, h1, h2, h3⟩
      exact ⟨UInt8.toNat_inj.mp h1.symm, UInt8.toNat_inj.mp h2.symm, UInt8.toNat_inj.mp h3.symm⟩
  · constructor
    · intro e
      have := Lib.hasPrefix_le e
      rw [List.length_drop, data_length] at this
      simp only [List.length_cons, List.length_nil] at this
      omega
    · rintro ⟨h1, _⟩
      exact absurd h1 h
theorem bad_run (t : ByteArray) (p : Nat) (hp : p < t.size) : badAt t p = decide ((runeN t p).2 = 0) := by
  have hf := (prefix_iff t p hp).trans (run_fffd t p hp).symm
  unfold badAt
  rw [dec_run]
  by_cases hz : (runeN t p).2 = 0
  · rw [if_pos hz, decide_eq_true hz, decide_eq_true rfl]
    have : Lib.hasPrefix (t.extract p t.size).data.toList [239, 191, 189] = false := Bool.eq_false_iff.mpr fun e => (hf.mp e).1 hz
    rw [this]
    rfl
  · rw [if_neg hz, decide_eq_false hz]
    by_cases h1 : (runeN t p).1 = 65533
    · rw [hf.mpr ⟨hz, h1⟩, Bool.not_true, Bool.and_false]
    · rw [decide_eq_false h1, Bool.false_and]
/-! The document's rune. -/
theorem rl_end (l : List Int) (size n least : Int) (R : Int × Int) (h : R = if n < least ∨ n > 1114111 ∨ (55296 ≤ n ∧ n ≤ 57343) then (0, 0) else (n, size)) : Ev (fun k => serinetteref18_Rune.l0 k l size n least size) R := by
  refine Ev.step (fun k => serinetteref18_Rune.l0.eq_2 ..) ?_
  refine evF (by omega) ?_
  by_cases h1 : n < least
  · rw [h.trans (if_pos (Or.inl h1))]
    exact evT h1 (Ev.now _)
  refine evF h1 ?_
  by_cases h2 : n > 1114111
  · rw [h.trans (if_pos (Or.inr (Or.inl h2)))]
    exact evT h2 (Ev.now _)
  refine evF h2 ?_
  by_cases h3 : n ≥ 55296
  · refine evT h3 ?_
    by_cases h4 : n ≤ 57343
    · rw [h.trans (if_pos (Or.inr (Or.inr ⟨h3, h4⟩)))]
      exact evT h4 (Ev.now _)
    · rw [h.trans (if_neg (by omega))]
      exact evF h4 (Ev.now _)
  · rw [h.trans (if_neg (by omega))]
    exact evF h3 (Ev.now _)
theorem rl_step (l : List Int) (size n least i : Int) (b : Int) (R : Int × Int) (hi : 0 ≤ i ∧ i < l.length ∧ i < size) (hs : size ≤ 4) (hn : 0 ≤ n ∧ n ≤ 1000000000) (hb : rd l i = b) (hb2 : 0 ≤ b ∧ b ≤ 255) (h0 : ¬ (128 ≤ b ∧ b ≤ 191) → R = (0, 0))
    (h1 : 128 ≤ b ∧ b ≤ 191 → Ev (fun k => serinetteref18_Rune.l0 k l size (64 * n + (b - 128)) least (i + 1)) R) : Ev (fun k => serinetteref18_Rune.l0 k l size n least i) R := by
  refine Ev.step (fun k => serinetteref18_Rune.l0.eq_2 ..) ?_
  refine evT hi.2.2 ?_
  refine evT hi.1 ?_
  refine evT hi.2.1 ?_
  rw [hb]
  by_cases c1 : b < 128
  · rw [h0 (by omega)]
    exact evT c1 (Ev.now _)
  refine evF c1 ?_
  by_cases c2 : b > 191
  · rw [h0 (by omega)]
    exact evT c2 (Ev.now _)
  refine evF c2 ?_
  have := h1 (by omega)
  rw [wr b (by omega), wr (64 * n) (by omega), wr (64 * n + b) (by omega), wr (64 * n + b - 128) (by omega), wr (i + 1) (by omega), show 64 * n + b - 128 = 64 * n + (b - 128) by omega]
  exact this
/-- Behind the choice of a size. -/
theorem rj5 (l : List Int) (size n least : Int) (R : Int × Int) (hz : size ≠ 0) (h0 : (l.length : Int) < size → R = (0, 0)) (h1 : size ≤ l.length → Ev (fun k => serinetteref18_Rune.l0 k l size n least 1) R) : Ev (fun k => serinetteref18_Rune.j5 k l size n least) R := by
  refine Ev.step (fun k => serinetteref18_Rune.j5.eq_2 ..) ?_
  refine evF hz ?_
  refine Ev.step (fun k => serinetteref18_Rune.j6.eq_2 ..) ?_
  by_cases c : (l.length : Int) < size
  · rw [decide_eq_true c, h0 c]
    exact evT rfl (Ev.now _)
  · rw [decide_eq_false c]
    exact evF (by decide) (h1 (by omega))
theorem rune_evL (l : List Int) (m b0 b1 b2 b3 : Nat) (hm : l.length = m) (hm1 : 1 ≤ m) (h0 : rd l 0 = (b0 : Int)) (h1 : 2 ≤ m → rd l 1 = (b1 : Int)) (h2 : 3 ≤ m → rd l 2 = (b2 : Int)) (h3 : 4 ≤ m → rd l 3 = (b3 : Int)) (g0 : b0 < 256) (g1 : b1 < 256) (g2 : b2 < 256) (g3 : b3 < 256) :
    Ev (fun k => serinetteref18_Rune.f k l) (((runV m b0 b1 b2 b3).1 : Int), ((runV m b0 b1 b2 b3).2 : Int)) := by
  unfold serinetteref18_Rune.f
  refine evF (by omega) ?_
  refine evT (by omega) ?_
  rw [h0, wr (b0 : Int) (by omega)]
  unfold runV
  by_cases c0 : b0 < 128
  · rw [if_pos c0]
    exact evT (by omega) (Ev.now _)
  rw [if_neg c0]
  refine evF (by omega) ?_
  by_cases c2 : 194 ≤ b0 ∧ b0 ≤ 223
  · rw [if_pos c2]
    refine evT (by omega) ?_
    rw [decide_eq_true (show (b0 : Int) ≤ 223 by omega)]
    refine Ev.step (fun k => serinetteref18_Rune.j0.eq_2 ..) ?_
    refine evT rfl ?_
    rw [wr ((b0 : Int) - 192) (by omega)]
    refine Ev.step (fun k => serinetteref18_Rune.j1.eq_2 ..) ?_
    refine evF (by omega) ?_
    refine Ev.step (fun k => serinetteref18_Rune.j2.eq_2 ..) ?_
    refine evF (by decide) ?_
    refine Ev.step (fun k => serinetteref18_Rune.j3.eq_2 ..) ?_
    refine evF (by omega) ?_
    refine Ev.step (fun k => serinetteref18_Rune.j4.eq_2 ..) ?_
    refine evF (by decide) ?_
    refine rj5 _ _ _ _ _ (by decide) (fun hl => by rw [if_neg (by omega)]; rfl) fun hl => ?_
    refine rl_step _ _ _ _ _ _ _ ⟨by decide, by omega, by decide⟩ (by decide) (by omega) (h1 (by omega)) (by omega) (fun hb => by rw [if_neg (by omega)]; rfl) fun hb => ?_
    rw [if_pos (by omega)]
    refine rl_end _ _ _ _ _ ?_
    rw [if_neg (by omega)]
    simp only
    rw [Prod.mk.injEq]
    exact ⟨by omega, rfl⟩
  rw [if_neg c2]
  have hj0 : ∀ (R : Int × Int), Ev (fun k => serinetteref18_Rune.j1 k l (b0 : Int) 0 0 0) R → Ev (fun k => if (b0 : Int) ≥ 194 then serinetteref18_Rune.j0 k l (b0 : Int) 0 0 0 (decide ((b0 : Int) ≤ 223)) else serinetteref18_Rune.j0 k l (b0 : Int) 0 0 0 false) R := by
    intro R hR
    by_cases c : (b0 : Int) ≥ 194
    · refine evT c ?_
      rw [decide_eq_false (show ¬ (b0 : Int) ≤ 223 by omega)]
      refine Ev.step (fun k => serinetteref18_Rune.j0.eq_2 ..) ?_
      exact evF (by decide) hR
    · refine evF c ?_
      refine Ev.step (fun k => serinetteref18_Rune.j0.eq_2 ..) ?_
      exact evF (by decide) hR
  refine hj0 _ ?_
  refine Ev.step (fun k => serinetteref18_Rune.j1.eq_2 ..) ?_
  by_cases c3 : 224 ≤ b0 ∧ b0 ≤ 239
  · rw [if_pos c3]
    refine evT (by omega) ?_
    rw [decide_eq_true (show (b0 : Int) ≤ 239 by omega)]
    refine Ev.step (fun k => serinetteref18_Rune.j2.eq_2 ..) ?_
    refine evT rfl ?_
    rw [wr ((b0 : Int) - 224) (by omega)]
    refine Ev.step (fun k => serinetteref18_Rune.j3.eq_2 ..) ?_
    refine evF (by omega) ?_
    refine Ev.step (fun k => serinetteref18_Rune.j4.eq_2 ..) ?_
    refine evF (by decide) ?_
    refine rj5 _ _ _ _ _ (by decide) (fun hl => by rw [if_neg (by omega)]; rfl) fun hl => ?_
    refine rl_step _ _ _ _ _ _ _ ⟨by decide, by omega, by decide⟩ (by decide) (by omega) (h1 (by omega)) (by omega) (fun hb => by rw [if_neg (by omega)]; rfl) fun hb1 => ?_
    refine rl_step _ _ _ _ _ _ _ ⟨by decide, by omega, by decide⟩ (by decide) (by omega) (h2 (by omega)) (by omega) (fun hb => by rw [if_neg (by omega)]; rfl) fun hb2 => ?_
    refine rl_end _ _ _ _ _ ?_
    by_cases d : 2048 ≤ ((b0 - 224) * 64 + (b1 - 128)) * 64 + (b2 - 128) ∧ (((b0 - 224) * 64 + (b1 - 128)) * 64 + (b2 - 128) < 55296 ∨ 57343 < ((b0 - 224) * 64 + (b1 - 128)) * 64 + (b2 - 128))
    · rw [if_pos (by omega), if_neg (by omega)]
      simp only
      rw [Prod.mk.injEq]
      exact ⟨by omega, rfl⟩
    · rw [if_neg (fun q => d ⟨q.2.2.2.1, q.2.2.2.2⟩), if_pos (by omega)]
      rfl
  rw [if_neg c3]
  have hj1 : ∀ (R : Int × Int), Ev (fun k => serinetteref18_Rune.j3 k l (b0 : Int) 0 0 0) R → Ev (fun k => if (b0 : Int) ≥ 224 then serinetteref18_Rune.j2 k l (b0 : Int) 0 0 0 (decide ((b0 : Int) ≤ 239)) else serinetteref18_Rune.j2 k l (b0 : Int) 0 0 0 false) R := by
    intro R hR
    by_cases c : (b0 : Int) ≥ 224
    · refine evT c ?_
      rw [decide_eq_false (show ¬ (b0 : Int) ≤ 239 by omega)]
      refine Ev.step (fun k => serinetteref18_Rune.j2.eq_2 ..) ?_
      exact evF (by decide) hR
    · refine evF c ?_
      refine Ev.step (fun k => serinetteref18_Rune.j2.eq_2 ..) ?_
      exact evF (by decide) hR
  refine hj1 _ ?_
  refine Ev.step (fun k => serinetteref18_Rune.j3.eq_2 ..) ?_
  by_cases c4 : 240 ≤ b0 ∧ b0 ≤ 244
  · rw [if_pos c4]
    refine evT (by omega) ?_
    rw [decide_eq_true (show (b0 : Int) ≤ 244 by omega)]
    refine Ev.step (fun k => serinetteref18_Rune.j4.eq_2 ..) ?_
    refine evT rfl ?_
    rw [wr ((b0 : Int) - 240) (by omega)]
    refine rj5 _ _ _ _ _ (by decide) (fun hl => by rw [if_neg (by omega)]; rfl) fun hl => ?_
    refine rl_step _ _ _ _ _ _ _ ⟨by decide, by omega, by decide⟩ (by decide) (by omega) (h1 (by omega)) (by omega) (fun hb => by rw [if_neg (by omega)]; rfl) fun hb1 => ?_
    refine rl_step _ _ _ _ _ _ _ ⟨by decide, by omega, by decide⟩ (by decide) (by omega) (h2 (by omega)) (by omega) (fun hb => by rw [if_neg (by omega)]; rfl) fun hb2 => ?_
    refine rl_step _ _ _ _ _ _ _ ⟨by decide, by omega, by decide⟩ (by decide) (by omega) (h3 (by omega)) (by omega) (fun hb => by rw [if_neg (by omega)]; rfl) fun hb3 => ?_
    refine rl_end _ _ _ _ _ ?_
    by_cases d : 65536 ≤ (((b0 - 240) * 64 + (b1 - 128)) * 64 + (b2 - 128)) * 64 + (b3 - 128) ∧ (((b0 - 240) * 64 + (b1 - 128)) * 64 + (b2 - 128)) * 64 + (b3 - 128) ≤ 1114111
    · rw [if_pos (by omega), if_neg (by omega)]
      simp only
      rw [Prod.mk.injEq]
      exact ⟨by omega, rfl⟩
    · rw [if_neg (fun q => d ⟨q.2.2.2.2.1, q.2.2.2.2.2⟩), if_pos (by omega)]
      rfl
  rw [if_neg c4]
  have hj3 : ∀ (R : Int × Int), Ev (fun k => serinetteref18_Rune.j5 k l 0 0 0) R → Ev (fun k => if (b0 : Int) ≥ 240 then serinetteref18_Rune.j4 k l (b0 : Int) 0 0 0 (decide ((b0 : Int) ≤ 244)) else serinetteref18_Rune.j4 k l (b0 : Int) 0 0 0 false) R := by
    intro R hR
    by_cases c : (b0 : Int) ≥ 240
    · refine evT c ?_
      rw [decide_eq_false (show ¬ (b0 : Int) ≤ 244 by omega)]
      refine Ev.step (fun k => serinetteref18_Rune.j4.eq_2 ..) ?_
      exact evF (by decide) hR
    · refine evF c ?_
      refine Ev.step (fun k => serinetteref18_Rune.j4.eq_2 ..) ?_
      exact evF (by decide) hR
  refine hj3 _ ?_
  refine Ev.step (fun k => serinetteref18_Rune.j5.eq_2 ..) ?_
  refine evT rfl ?_
  refine Ev.step (fun k => serinetteref18_Rune.j6.eq_2 ..) ?_
  exact evT rfl (Ev.now _)
theorem rd_drop (t : ByteArray) (p i : Nat) : rd ((bytesOf t).drop p) (i : Int) = ((t.get! (p + i)).toNat : Int) := by
  unfold rd
  rw [Int.toNat_natCast, ← getD_drop, get_bytes]
theorem rune_ev (t : ByteArray) (p : Nat) (hp : p < t.size) : Ev (fun k => serinetteref18_Rune.f k ((bytesOf t).drop p)) (((runeN t p).1 : Int), ((runeN t p).2 : Int)) :=
  rune_evL _ (t.size - p) _ _ _ _ (by rw [List.length_drop, bytesOf_length]) (by omega) (rd_drop t p 0) (fun _ => rd_drop t p 1) (fun _ => rd_drop t p 2) (fun _ => rd_drop t p 3) (t.get! (p + 0)).toNat_lt (t.get! (p + 1)).toNat_lt (t.get! (p + 2)).toNat_lt (t.get! (p + 3)).toNat_lt
theorem text_ev0 (t : ByteArray) (ht : t.size ≤ 1000000000) : ∀ (n p : Nat), t.size < p + n → Ev (fun k => serinetteref18_Text.l0 k ((bytesOf t).drop p)) (textL t n p)
  | 0, p, h => by
    refine Ev.step (fun k => serinetteref18_Text.l0.eq_2 ..) ?_
    refine evF (by rw [List.length_drop, bytesOf_length]; omega) ?_
    exact Ev.now _
  | n + 1, p, h => by
    refine Ev.step (fun k => serinetteref18_Text.l0.eq_2 ..) ?_
    unfold textL
    by_cases hp : p < t.size
    · rw [if_pos hp]
      refine evT (by rw [List.length_drop, bytesOf_length]; omega) ?_
      refine evB (rune_ev t p hp) ?_
      rw [bad_run t p hp]
      by_cases hz : (runeN t p).2 = 0
      · rw [decide_eq_true hz, if_pos rfl]
        exact evT (by simp only; omega) (Ev.now _)
      · rw [decide_eq_false hz, if_neg (by decide)]
        have he := run_end t p hp hz
        refine evF (by simp only; omega) ?_
        refine evT (by simp only; omega) ?_
        refine evT (by simp only [List.length_drop, bytesOf_length]; omega) ?_
        simp only
        rw [Int.toNat_natCast, List.drop_drop, dec_run, if_neg hz]
        exact text_ev0 t ht n (p + (runeN t p).2) (by omega)
    · rw [if_neg hp]
      refine evF (by rw [List.length_drop, bytesOf_length]; omega) ?_
      exact Ev.now _
theorem text_ev (t : ByteArray) (ht : t.size ≤ 1000000000) : Ev (fun k => serinetteref18_Text.f k t) (textP t) := by
  unfold serinetteref18_Text.f
  refine evT (by omega) ?_
  exact text_ev0 t ht (t.size + 1) 0 (by omega)
/-! The runes put together. -/
theorem bytes_app (a b : ByteArray) : bytesOf (a ++ b) = bytesOf a ++ bytesOf b := by
  unfold bytesOf
  rw [ByteArray.data_append, Array.toList_append, List.map_append]
theorem again_pre (t : ByteArray) : ∀ (n p : Nat) (acc : ByteArray), ∃ more, bytesOf (againL t n p acc) = bytesOf acc ++ more
  | 0, p, acc => ⟨[], by simp [againL]⟩
  | n + 1, p, acc => by
    unfold againL
    split
    · obtain ⟨more, h⟩ := again_pre t n (p + (Utf8.decode t p).2) (acc ++ Utf8.encode ((Utf8.decode t p).1 : Int))
      exact ⟨_, by rw [h, bytes_app, List.append_assoc]⟩
    · exact ⟨[], by simp⟩
theorem again_iff (t : ByteArray) : ∀ (n p : Nat) (acc : ByteArray), t.size < p + n → p ≤ t.size → (bytesOf (againL t n p acc) = bytesOf acc ++ (bytesOf t).drop p ↔ textL t n p = true)
  | 0, p, acc, h, hp => by omega
  | n + 1, p, acc, h, hp => by
    unfold againL textL
    by_cases c : p < t.size
    · rw [if_pos c, if_pos c, bad_run t p c, dec_run]
      by_cases hz : (runeN t p).2 = 0
      · rw [if_pos hz, decide_eq_true hz, if_pos rfl]
        constructor
        · intro e
          exfalso
          obtain ⟨more, hm⟩ := again_pre t n (p + 1) (acc ++ Utf8.encode ((65533 : Nat) : Int))
          simp only at e
          rw [hm, bytes_app, List.append_assoc, List.append_cancel_left_eq, utf_enc _ (by decide) (by decide) (by decide), enc3 _ (by decide)] at e
          have e3 : (bytesOf t).drop p = 239 :: 191 :: 189 :: more := e.symm
          have hl := congrArg List.length e3
          rw [List.length_drop, bytesOf_length] at hl
          simp only [List.length_cons] at hl
          have g := fun k => (get_bytes t (p + k)).trans ((getD_drop (bytesOf t) p k).trans (by rw [e3]))
          have g0 := g 0
          have g1 := g 1
          have g2 := g 2
          simp only [List.getD_cons_zero, List.getD_cons_succ, Nat.add_zero] at g0 g1 g2
          exact ((run_fffd t p c).mpr ⟨by omega, by omega, by omega, by omega⟩).1 hz
        · intro e
          cases e
      · rw [if_neg hz, decide_eq_false hz, if_neg (by decide)]
        have he := run_end t p c hz
        have ih := again_iff t n (p + (runeN t p).2) (acc ++ Utf8.encode ((runeN t p).1 : Int)) (by omega) he
        rw [← ih, bytes_app, enc_run t p c hz, List.append_assoc, ← List.drop_drop, List.take_append_drop]
    · rw [if_neg c, if_neg c]
      have : (bytesOf t).drop p = [] := List.drop_eq_nil_of_le (by rw [bytesOf_length]; omega)
      rw [this, List.append_nil]
      exact ⟨fun _ => rfl, fun _ => rfl⟩
theorem again_law (t : ByteArray) : ((againP t).toList == t.toList) = textP t := by
  have h := again_iff t (t.size + 1) 0 ⟨#[]⟩ (by omega) (Nat.zero_le _)
  have e0 : bytesOf (⟨#[]⟩ : ByteArray) = [] := rfl
  rw [e0, List.nil_append, List.drop_zero] at h
  unfold againP textP
  cases hx : textL t (t.size + 1) 0 with
  | true => exact beq_iff_eq.mpr (bytes_toList (h.mpr hx))
  | false =>
    refine beq_eq_false_iff_ne.mpr fun e => ?_
    have := h.mp (toList_bytes e)
    rw [hx] at this
    cases this
/-! Fields. -/
theorem bt_get (t : ByteArray) (i : Nat) (h : i < t.size) : bt t (i : Int) = ((t.get! i).toNat : Int) := by
  unfold bt
  have hi : (i : Int).toNat < t.size := by rw [Int.toNat_natCast]; exact h
  rw [dif_pos hi]
  have e : t.get! i = t[i]'h := by
    simp [ByteArray.get!, getElem!_pos, h]
    rfl
  rw [e]
  rfl
theorem dec_low (t : ByteArray) (p : Nat) (h : (t.get! p).toNat < 128) : Utf8.decode t p = ((t.get! p).toNat, 1) := by
  have hr : runeN t p = ((t.get! p).toNat, 1) := by
    unfold runeN runV
    exact if_pos h
  rw [dec_run, hr]
  rfl
theorem dec_high (t : ByteArray) (p : Nat) (h : 128 ≤ (t.get! p).toNat) : 128 ≤ (Utf8.decode t p).1 := by
  rw [dec_run]
  by_cases hz : (runeN t p).2 = 0
  · rw [if_pos hz]; decide
  · rw [if_neg hz]
    rcases run_cases t p hz with ⟨h0, hr⟩ | ⟨h0, h1, h2, h3, h4, hr⟩ | ⟨h0, h1, h2, h3, h4, h5, h6, h7, h8, hr⟩ | ⟨h0, h1, h2, h3, h4, h5, h6, h7, h8, h9, h10, hr⟩ <;> rw [hr] <;> simp only <;> omega
theorem odd_false (c : Nat) (h : 32 ≤ c ∧ c ≤ 125) : oddR c = false := by
  unfold oddR
  rw [decide_eq_false (by omega), decide_eq_false (by omega)]
  rfl
theorem odd_true (c : Nat) (h : c < 32 ∨ 125 < c) : oddR c = true := by
  unfold oddR
  rcases h with h | h
  · rw [decide_eq_true h, Bool.true_or]
  · rw [decide_eq_true h, Bool.or_true]
theorem no_odd (nm : ByteArray) (h : ∀ j, j < nm.size → 32 ≤ (nm.get! j).toNat ∧ (nm.get! j).toNat ≤ 125) : ∀ (f p : Nat), Lib.idxFuncFrom oddR true nm f p = -1
  | 0, _ => rfl
  | f + 1, p => by
    unfold Lib.idxFuncFrom
    by_cases c : p < nm.size
    · have := h p c
      rw [if_pos c, dec_low nm p (by omega)]
      simp only
      rw [odd_false _ this, if_neg (by decide)]
      exact no_odd nm h f (p + 1)
    · rw [if_neg c]
theorem some_odd (nm : ByteArray) (j : Nat) (hj : j < nm.size) (ho : (nm.get! j).toNat < 32 ∨ 125 < (nm.get! j).toNat) : ∀ (f p : Nat), p ≤ j → nm.size ≤ p + f → 0 ≤ Lib.idxFuncFrom oddR true nm f p
  | 0, p, h1, h2 => by omega
  | f + 1, p, h1, h2 => by
    unfold Lib.idxFuncFrom
    rw [if_pos (by omega)]
    by_cases c : (nm.get! p).toNat < 128
    · rw [dec_low nm p c]
      simp only
      by_cases e : oddR (nm.get! p).toNat = true
      · rw [if_pos e]; omega
      · rw [if_neg e]
        have hne : p ≠ j := by
          intro q
          subst q
          exact e (odd_true _ ho)
        exact some_odd nm j hj ho f (p + 1) (by omega) (by omega)
    · have := dec_high nm p (by omega)
      rw [if_pos (odd_true _ (by omega))]
      omega
theorem get_eq (s : ByteArray) (j : Nat) (h : j < s.size) : s.get! j = s[j]'h := by
  simp [ByteArray.get!, getElem!_pos, h]
  rfl
theorem name_get (t : ByteArray) (e j : Nat) (he : e ≤ t.size) (hj : j < e) : (t.extract 0 e).get! j = t.get! j := by
  have h1 : j < (t.extract 0 e).size := by rw [ByteArray.size_extract]; omega
  have h2 : j < t.size := by omega
  rw [get_eq _ j h1, get_eq _ j h2, ByteArray.getElem_extract]
  congr 1
  omega
theorem name_size (t : ByteArray) (e : Nat) (he : e ≤ t.size) : (t.extract 0 e).size = e := by rw [ByteArray.size_extract]; omega
theorem byte_at (t : ByteArray) (i : Nat) (h : i < t.size) : t.data.toList[i]? = some (t.get! i) := by
  have hl : i < t.data.toList.length := by rw [data_length]; exact h
  rw [List.getElem?_eq_getElem hl]
  have e : t.get! i = t[i]'h := by
    simp [ByteArray.get!, getElem!_pos, h]
    rfl
  rw [e]
  rfl
theorem eq_at (t : ByteArray) (i : Nat) (hi : i < t.size) (h : (t.get! i).toNat = 61) (hb : ∀ j, j < i → (t.get! j).toNat ≠ 61) : eqAt t = (i : Int) := by
  unfold eqAt
  have hge := Lib.indexByte_ge t.data.toList 61
  have hi61 : t.data.toList[i]? = some 61 := by rw [byte_at t i hi]; exact congrArg some (UInt8.toNat_inj.mp h)
  by_cases c : Lib.indexByte t.data.toList 61 = -1
  · exact absurd hi61 (Lib.indexByte_none c i)
  · obtain ⟨o, ho⟩ : ∃ o : Nat, Lib.indexByte t.data.toList 61 = (o : Int) := ⟨(Lib.indexByte t.data.toList 61).toNat, by omega⟩
    obtain ⟨h1, h2⟩ := Lib.indexByte_some ho
    rw [ho]
    have hol : o < t.size := by
      have := (List.getElem?_eq_some_iff.1 h1).1
      rwa [data_length] at this
    rw [byte_at t o hol] at h1
    have ho61 : (t.get! o).toNat = 61 := by rw [Option.some.inj h1]; rfl
    by_cases d : o < i
    · exact absurd ho61 (hb o d)
    · by_cases d2 : i < o
      · exact absurd hi61 (h2 i d2)
      · have : o = i := by omega
        rw [this]
theorem eq_none (t : ByteArray) (hb : ∀ j, j < t.size → (t.get! j).toNat ≠ 61) : ¬ 0 ≤ eqAt t := by
  intro h
  unfold eqAt at h
  obtain ⟨o, ho⟩ : ∃ o : Nat, Lib.indexByte t.data.toList 61 = (o : Int) := ⟨(Lib.indexByte t.data.toList 61).toNat, by omega⟩
  obtain ⟨h1, _⟩ := Lib.indexByte_some ho
  have hol : o < t.size := by
    have := (List.getElem?_eq_some_iff.1 h1).1
    rwa [data_length] at this
  rw [byte_at t o hol] at h1
  exact hb o hol (by rw [Option.some.inj h1]; rfl)
theorem field_l0 (t : ByteArray) (ht : t.size ≤ 1000000000) (hx : textP t = true) (d : Nat) : ∀ (i : Nat), i + d = t.size → (∀ j, j < i → (t.get! j).toNat ≠ 61 ∧ 32 ≤ (t.get! j).toNat ∧ (t.get! j).toNat ≤ 125) → Ev (fun k => serinetteref18_Field.l0 k t (i : Int)) (fieldP t) := by
  induction d with
  | zero =>
    intro i hi hb
    refine Ev.step (fun k => serinetteref18_Field.l0.eq_2 ..) ?_
    refine evF (by omega) ?_
    have e : fieldP t = false := by
      unfold fieldP
      rw [decide_eq_false (eq_none t fun j hj => (hb j (by omega)).1)]
      rfl
    rw [e]
    exact Ev.now _
  | succ d ih =>
    intro i hi hb
    have hlt : i < t.size := by omega
    refine Ev.step (fun k => serinetteref18_Field.l0.eq_2 ..) ?_
    refine evT (by omega) ?_
    refine evT (by omega) ?_
    rw [bt_get t i hlt]
    by_cases c : (t.get! i).toNat = 61
    · refine evT (by omega) ?_
      have he := eq_at t i hlt c (fun j hj => (hb j hj).1)
      have hn : nameOf t = t.extract 0 i := by unfold nameOf; rw [he, Int.toNat_natCast]
      have hz : Lib.idxFunc oddR true (nameOf t) = -1 := by
        rw [hn]
        exact no_odd _ (fun j hj => by
          rw [name_size t i (by omega)] at hj
          rw [name_get t i j (by omega) hj]
          exact (hb j hj).2) _ _
      have e : fieldP t = decide ((i : Int) > 0) := by
        unfold fieldP
        rw [hx, hz, he, decide_eq_true (show (0 : Int) ≤ (i : Int) by omega)]
        simp
      rw [e]
      exact Ev.now _
    refine evF (by omega) ?_
    have hbad : (t.get! i).toNat < 32 ∨ 125 < (t.get! i).toNat → fieldP t = false := by
      intro ho
      unfold fieldP
      by_cases q : 0 ≤ eqAt t
      · have hlt2 := eqAt_lt t q
        obtain ⟨e, he⟩ : ∃ e : Nat, eqAt t = (e : Int) := ⟨(eqAt t).toNat, by omega⟩
        rw [he, Int.toNat_natCast] at hlt2
        have hge : i < e := by
          obtain ⟨h1, _⟩ := Lib.indexByte_some (show Lib.indexByte t.data.toList 61 = (e : Int) from he)
          rw [byte_at t e hlt2] at h1
          have h61 : (t.get! e).toNat = 61 := by rw [Option.some.inj h1]; rfl
          by_cases d1 : e < i
          · exact absurd h61 (hb e d1).1
          · by_cases d2 : e = i
            · subst d2
              exact absurd h61 c
            · omega
        have hn : nameOf t = t.extract 0 e := by unfold nameOf; rw [he, Int.toNat_natCast]
        have hs := name_size t e (by omega)
        have : 0 ≤ Lib.idxFunc oddR true (nameOf t) := by
          rw [hn]
          unfold Lib.idxFunc
          exact some_odd _ i (by omega) (by rw [name_get t e i (by omega) hge]; exact ho) _ 0 (Nat.zero_le _) (by omega)
        rw [decide_eq_true this]
        simp
      · rw [decide_eq_false q]
        rfl
    by_cases c1 : (t.get! i).toNat < 32
    · rw [hbad (.inl c1)]
      exact evT (by omega) (Ev.now _)
    refine evF (by omega) ?_
    by_cases c2 : 125 < (t.get! i).toNat
    · rw [hbad (.inr c2)]
      exact evT (by omega) (Ev.now _)
    refine evF (by omega) ?_
    rw [wr _ (by omega)]
    refine ih (i + 1) (by omega) fun j hj => ?_
    by_cases e : j = i
    · subst e
      exact ⟨c, by omega, by omega⟩
    · exact hb j (by omega)
theorem field_ev (t : ByteArray) (ht : t.size ≤ 1000000000) : Ev (fun k => serinetteref18_Field.f k t) (fieldP t) := by
  unfold serinetteref18_Field.f
  refine evB (text_ev t ht) ?_
  by_cases hx : textP t = true
  · refine evT hx ?_
    exact field_l0 t ht hx t.size 0 (by omega) (fun j hj => by omega)
  · refine evF hx ?_
    have e : fieldP t = false := by
      unfold fieldP
      rw [Bool.eq_false_iff.mpr hx, Bool.and_false, Bool.false_and]
    rw [e]
    exact Ev.now _
theorem MetaTexts : serinettelaw18_MetaTexts.Pure := by
  intro a0 hm
  refine Ev.rounds ?_
  unfold serinettelaw18_MetaTexts.f
  by_cases c : (a0.size : Int) > 100
  · exact evT c (Ev.now _)
  refine evF c ?_
  refine evB (text_ev a0 (by omega)) ?_
  refine evB (field_ev a0 (by omega)) ?_
  exact evT ⟨rfl, rfl, again_law a0⟩ (Ev.now _)
end Go.Proofs.Ytpeejdmbnlhjmaa.Pure
