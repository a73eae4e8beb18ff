/- The statement MetaTexts's own function as a plain one, with the proof that the program's call comes to it. For any arguments. -/
import Derived.Test.YtpeejdmbnlhjmaaPMetaTextsx2
import Derived.Laws.RangeAny
import Derived.Laws.Cover4
import Derived.Outline
namespace Go.Proofs.Ytpeejdmbnlhjmaa.PMetaTexts
open Go.RowKit Go.Proofs.YtpeejdmbnlhjmaaW.PrintWords Go.Proofs.YtpeejdmbnlhjmaaW.PrintLast Go.Proofs.YtpeejdmbnlhjmaaW.PrintMore Go.Proofs.Ytpeejdmbnlhjmaa.H Go.Proofs.Ytpeejdmbnlhjmaa.H
attribute [local go_sem] max2_int min2_int max_two min_two max_three min_three max_four min_four   -- for this text's walks alone
set_option linter.unusedVariables false
set_option linter.unusedSimpArgs false
/-! ### MetaTexts' own function, walked by hand -/
theorem leO_bind {α β : Type} {a a' : Option α} {f f' : α → Option β} (h : LeO a a') (k : ∀ x, LeO (f x) (f' x)) : LeO (a.bind f) (a'.bind f') := LeO.bind h k
/-- A text's runes, put together. -/
def againL (s : ByteArray) : Nat → Nat → ByteArray → ByteArray
  | 0, _, acc => acc
  | n + 1, p, acc => if p < s.size then againL s n (p + (Utf8.decode s p).2) (acc ++ Utf8.encode ((Utf8.decode s p).1 : Int)) else acc
def againP (s : ByteArray) : ByteArray := againL s (s.size + 1) 0 ⟨#[]⟩
def serinettelaw18_MetaTexts.f (k : Nat) (a0 : ByteArray) : Option Bool :=
  if (a0.size : Int) > 100 then some true else
  (serinetteref18_Text.f k a0).bind fun t => (serinetteref18_Field.f k a0).bind fun d =>
    if t = textP a0 ∧ d = fieldP a0 ∧ ((againP a0).toList == a0.toList) = textP a0 then some true else none
theorem serinettelaw18_MetaTexts.mono : ∀ a0 k, LeO (serinettelaw18_MetaTexts.f k a0) (serinettelaw18_MetaTexts.f (k + 1) a0) := fun a0 k =>
  LeO.ite (LeO.refl _) (LeO.bind (serinetteref18_Text.mono _ _) fun _ => LeO.bind (serinetteref18_Field.mono _ _) fun _ => LeO.refl _)
theorem conv_rune (c : Nat) (w : World) : (convert 21 9 (.int .i32 (c : Int))).run Try.prog w = .ok (.string (Utf8.encode (c : Int))) w := by kernel_rfl
set_option maxHeartbeats 8000000 in
set_option maxRecDepth 100000 in
theorem texts_long (t : ByteArray) (w : World) (hl : (t.size : Int) > 100) : Calls Try.prog 4 #[.string t] w (BoolTo w true) := by
  have g1 : decide ((t.size : Int) > 100) = true := decide_eq_true hl
  have g2 : decide (t.size > 100) = true := decide_eq_true (by omega)
  have g3 : decide (100 < t.size) = true := decide_eq_true (by omega)
  clear hl
  go_enter Try.func4, Try.ntmps4
  go_wp2_with (first | (go_at_call 16; (with_reducible refine (awake18_calls _).mono ?_); rintro e' w1 ⟨rfl, hb⟩; have HB1 := Aside0.mk hb; clear hb))
  go_ret
  exact ⟨rfl, HB1.out⟩
set_option maxHeartbeats 8000000 in
set_option maxRecDepth 100000 in
theorem texts_short (k : Nat) (t : ByteArray) (w : World) (hl : ¬ (t.size : Int) > 100) (h1 : serinetteref18_Text.f k t = some (textP t)) (h2 : serinetteref18_Field.f k t = some (fieldP t)) (h3 : ((againP t).toList == t.toList) = textP t) :
    Calls Try.prog 4 #[.string t] w (BoolTo w true) := by
  have H1 := Aside0.mk h1
  have H2 := Aside0.mk h2
  have H3 := Aside0.mk h3
  have g1 : decide ((t.size : Int) > 100) = false := decide_eq_false hl
  have g2 : decide (t.size > 100) = false := decide_eq_false (by omega)
  have g3 : decide (100 < t.size) = false := decide_eq_false (by omega)
  have hts : t.size ≤ 100 := by omega
  clear hl h1 h2 h3
  go_enter Try.func4, Try.ntmps4
  go_upto_block 0 with (first | (go_at_call 16; (with_reducible refine (awake18_calls _).mono ?_); rintro e' w1 ⟨rfl, hb⟩; have HB1 := Aside0.mk hb; clear hb))
  have G0 := Aside0.mk (World.iter_heap w1 t 0)
  have HB2 : Aside0 (Below w.heap.size w (w1.iter t 0)) := ⟨below_alloc HB1.out (.stringIter t 0)⟩
  have hg := Aside0.mk HB1.out.size
  generalize w1.iter t 0 = w2 at *
  generalize w1.heap.size = g at *
  clear HB1 g1 g2 g3
  go_wp2_with fail
  go_loopg [4, 6] (t.size + 1) (fun kq v4 v6 wr => ∃ (p : Nat) (acc : ByteArray), v4 = .string acc ∧ Aside0 (acc.size ≤ 4 * p) ∧ Aside0 (t.size < p + kq ∧ p ≤ t.size) ∧ Aside0 (againL t kq p acc = againP t) ∧ Aside0 (wr.heap[g]? = some (.stringIter t p)) ∧ Aside0 (Below w.heap.size w wr))
  case atStart => exact ⟨0, ⟨#[]⟩, rfl, ⟨by decide⟩, ⟨by omega, by omega⟩, ⟨rfl⟩, G0, HB2⟩
  case round =>
    clear G0 HB2
    obtain ⟨p, acc, rfl, HC, HP, HA, HG, HB⟩ := hrel
    cases gk with
    | zero => exact absurd HP.out (by omega)
    | succ n =>
      have h := HA.out
      unfold againL at h
      by_cases hp : p < t.size
      · rw [if_pos hp] at h
        have hnx : ∀ ty, (Instr.next (.pointer (some ⟨g, 0, none⟩)) true ty).run Try.prog wr = _ := fun ty => run_next_in wr g t p ty HG.out hp
        have hle := decode_le t p
        have HG' := Aside0.mk (iterPut_at (p := p + (Utf8.decode t p).2) HG.out)
        have HB' := Aside0.mk (iterPut_below (g := g) (s := t) (p := p + (Utf8.decode t p).2) HB.out hg.out)
        have hend := decode_end t p hp
        have HP3 := Aside0.mk HP.out
        have H := Aside0.mk h
        clear h HA HG HB
        generalize iterPut wr g t (p + (Utf8.decode t p).2) = w3 at *
        generalize (Utf8.decode t p).2 = wd at *
        generalize (Utf8.decode t p).1 = cc at *
        have hc0 : (0 : Int) ≤ (cc : Int) := Int.natCast_nonneg _
        have hc1 : (cc : Int) ≤ 2147483647 := by omega
        have hcv : ∀ w, (convert 21 9 (.int .i32 (cc : Int))).run Try.prog w = .ok (.string (Utf8.encode (cc : Int))) w := fun w => conv_rune cc w
        have hen := encode_size_le (cc : Int)
        generalize Utf8.encode (cc : Int) = en at *
        have hac := HC.out
        have hs0 : acc.size + en.size ≤ 9223372036854775807 := by omega
        have hs1 : ¬ (9223372036854775807 < acc.size + en.size) := by omega
        have hs2 : ((acc.size : Int) + (en.size : Int)) ≤ 9223372036854775807 := by omega
        have hs3 : ¬ ((9223372036854775807 : Int) < (acc.size : Int) + (en.size : Int)) := by omega
        have hs4 : (acc ++ en).size ≤ 4 * (p + wd) := by rw [ByteArray.size_append]; omega
        have HS := Aside0.mk hs4
        clear hc0 hc1 hle hs4
        go_wp2_with fail
        go_roundg n
        case measure => omega
        case rel => exact ⟨p + wd, _, rfl, HS, ⟨by have := HP3.out; omega, by omega⟩, H, HG', HB'⟩
      · have hnx : ∀ ty, (Instr.next (.pointer (some ⟨g, 0, none⟩)) true ty).run Try.prog wr = _ := fun ty => run_next_out wr g t p ty HG.out hp
        rw [if_neg hp] at h
        subst h
        clear HA hp
        have h3 := H3.out
        go_wp2_with (first
          | (go_at_call 22; (with_reducible refine (text_calls t _ (by omega)).mono ?_); rintro e' w4 ⟨rfl, hb⟩; have HBn := Aside0.mk (below_step HB.out hb); clear HB hb; have HB := HBn; clear HBn)
          | (go_at_call 23; (with_reducible refine (serinetteref18_Text.calls k t _ _ H1.out).mono ?_); rintro e' w5 ⟨rfl, hb⟩; have HBn := Aside0.mk (below_step HB.out hb); clear HB hb; have HB := HBn; clear HBn)
          | (go_at_call 24; (with_reducible refine (field_calls t _ (by omega)).mono ?_); rintro e' w6 ⟨rfl, hb⟩; have HBn := Aside0.mk (below_step HB.out hb); clear HB hb; have HB := HBn; clear HBn)
          | (go_at_call 25; (with_reducible refine (serinetteref18_Field.calls k t _ _ H2.out).mono ?_); rintro e' w7 ⟨rfl, hb⟩; have HBn := Aside0.mk (below_step HB.out hb); clear HB hb; have HB := HBn; clear HBn))
        go_ret
        exact ⟨rfl, HB.out⟩
theorem serinettelaw18_MetaTexts.calls (k : Nat) (a0 : ByteArray) (r : Bool) (w : World) (h : serinettelaw18_MetaTexts.f k a0 = some r) :
    Calls Try.prog 4 #[.string a0] w fun e w' => e = .returned (.bool r) ∧ Below w.heap.size w w' := by
  unfold serinettelaw18_MetaTexts.f at h
  by_cases hl : (a0.size : Int) > 100
  · rw [if_pos hl] at h
    cases h
    exact texts_long a0 w hl
  · rw [if_neg hl] at h
    obtain ⟨t, h1, hh⟩ := Option.bind_eq_some_iff.mp h
    obtain ⟨d, h2, hk⟩ := Option.bind_eq_some_iff.mp hh
    by_cases hc : t = textP a0 ∧ d = fieldP a0 ∧ ((againP a0).toList == a0.toList) = textP a0
    · rw [if_pos hc] at hk
      obtain ⟨e1, e2, h3⟩ := hc
      rw [e1] at h1
      rw [e2] at h2
      obtain rfl := Option.some.inj hk
      exact texts_short k a0 w hl h1 h2 h3
    · rw [if_neg hc] at hk
      cases hk
/-- The one pure statement (lawrow.py). -/
def serinettelaw18_MetaTexts.Pure : Prop := ∀ (a0 : ByteArray), a0.size ≤ maxLen → ∃ k, serinettelaw18_MetaTexts.f k a0 = some true
theorem serinettelaw18_MetaTexts.walk (P : serinettelaw18_MetaTexts.Pure) (a0 : ByteArray) (w : World) (wa0 : a0.size ≤ maxLen) :
    Calls Try.prog 4 #[.string a0] w fun e w' => e = .returned (.bool true) ∧ Below w.heap.size w w' := by
  obtain ⟨k, h⟩ := P a0 wa0
  refine (serinettelaw18_MetaTexts.calls k a0 true w h).mono ?_
  rintro e w' ⟨rfl, hd⟩
  exact ⟨rfl, hd⟩

end Go.Proofs.Ytpeejdmbnlhjmaa.PMetaTexts
