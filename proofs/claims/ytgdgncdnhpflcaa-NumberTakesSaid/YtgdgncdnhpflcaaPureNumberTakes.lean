/- The statement NumberTakes: numbers are read one behind the other, as they were written. For up to thirty numbers. -/
import Derived.Test.YtgdgncdnhpflcaaPNumberTakesx3
import Derived.Test.YtgdgncdnhpflcaaLEv
import Derived.Test.YtgdgncdnhpflcaaLNum
import Derived.Test.YtgdgncdnhpflcaaLEnc
import Derived.Test.YtgdgncdnhpflcaaLDec
import Derived.Test.YtgdgncdnhpflcaaLDec2
import Derived.Test.YtgdgncdnhpflcaaFNumberTakesSize
import Derived.Test.YtgdgncdnhpflcaaFNumberTakesEncode
import Derived.Test.YtgdgncdnhpflcaaFNumberTakesDecode
namespace Go.Proofs.Ytgdgncdnhpflcaa.Pure
open Go.RowKit Go.Proofs.YtgdgncdnhpflcaaW.PrintWords Go.Proofs.YtgdgncdnhpflcaaW.PrintLast Go.Proofs.Ytgdgncdnhpflcaa.PNumberTakes Go.Proofs.Ytgdgncdnhpflcaa.H Go.Proofs.Ytgdgncdnhpflcaa.L Go.Proofs.Ytgdgncdnhpflcaa.FNumberTakes
set_option linter.unusedVariables false
set_option linter.unusedSimpArgs false
theorem awake03 : Ev (fun k => serinettelaw03_awake.f k) true := Ev.of (k := 40) serinettelaw03_awake.mono (by decide +kernel)
def numOf (x : Int) : Int := wrap64 (Int.tmod x 68719476736)
theorem numOf_rng (a : Int) (h : (Lit.int .u64 a).wf = true) : 0 ≤ numOf a ∧ numOf a ≤ 68719476735 := by
  have h0 : 0 ≤ a := (wf_u64 h).1
  unfold numOf
  rw [tmod_pos _ _ h0, wr _ (by omega)]
  omega
def packed (l : List Int) : List Int := l.flatMap fun x => encBytes (numOf x)
theorem packed_rng (l : List Int) (hl : ∀ x ∈ l, (Lit.int .u64 x).wf = true) : ∀ b ∈ packed l, 0 ≤ b ∧ b ≤ 255 := by
  intro b hb
  obtain ⟨x, hx, hb⟩ := List.mem_flatMap.1 hb
  have := numOf_rng x (hl x hx)
  exact encBytes_rng _ this.1 this.2 b hb
theorem packed_len : ∀ l : List Int, (packed l).length ≤ 7 * l.length
  | [] => by simp [packed]
  | x :: l => by
    have h1 := packed_len l
    have h2 := encBytes_length (numOf x)
    have h3 := nsize_rng (numOf x)
    simp only [packed, List.flatMap_cons, List.length_append, List.length_cons] at h1 ⊢
    omega
theorem takes_l1 (l : List Int) (hl : ∀ x ∈ l, (Lit.int .u64 x).wf = true) (h30 : l.length ≤ 30) (d : Nat) : ∀ i : Nat, i + d = l.length →
    Ev (fun k => serinettelaw03_NumberTakes.l1 k l true (packed (l.drop i)) i) true := by
  induction d with
  | zero =>
    intro i hi
    rw [List.drop_eq_nil_of_le (by omega)]
    refine Ev.step (fun k => serinettelaw03_NumberTakes.l1.eq_2 ..) ?_
    refine evF (by omega) ?_
    refine evB (dec_ev [] (by simp) (by simp)) ?_
    refine evT rfl ?_
    refine evT rfl ?_
    exact Ev.now _
  | succ d ih =>
    intro i hi
    have hlt : i < l.length := by omega
    have hr := packed_rng (l.drop i) (fun x hx => hl x (List.mem_of_mem_drop hx))
    have hlen := packed_len (l.drop i)
    rw [List.length_drop] at hlen
    have hn := numOf_rng l[i] (hl _ (List.getElem_mem hlt))
    have hd : packed (l.drop i) = encBytes (numOf l[i]) ++ packed (l.drop (i + 1)) := by
      rw [List.drop_eq_getElem_cons hlt]; unfold packed; rw [List.flatMap_cons]
    have hz := nsize_rng (numOf l[i])
    have hb := encBytes_length (numOf l[i])
    refine Ev.step (fun k => serinettelaw03_NumberTakes.l1.eq_2 ..) ?_
    refine evT (by omega) ?_
    refine evB (dec_ev _ hr (by omega)) ?_
    rw [hd, dec_enc _ hn.1 hn.2, rd_nat l i hlt]
    refine evT rfl ?_
    refine evT (by omega) ?_
    refine evT rfl ?_
    dsimp only
    refine evF (by omega) ?_
    refine evF (by rw [List.length_append]; omega) ?_
    refine evT (by omega) ?_
    refine evT (by rw [List.length_append]; omega) ?_
    rw [wr _ (by omega), List.drop_append_of_le_length (by omega), List.drop_eq_nil_of_le (by omega), List.nil_append]
    exact evR (ih (i + 1) (by omega)) rfl
theorem takes_l0 (l : List Int) (hl : ∀ x ∈ l, (Lit.int .u64 x).wf = true) (h30 : l.length ≤ 30) (d : Nat) : ∀ (i : Nat) (b : List Int), i + d = l.length → b.length ≤ 7 * i → b ++ packed (l.drop i) = packed l →
    Ev (fun k => serinettelaw03_NumberTakes.l0 k l true b i) true := by
  induction d with
  | zero =>
    intro i b hi hb he
    rw [List.drop_eq_nil_of_le (by omega)] at he
    have he' : b = packed l := by rw [← he]; simp [packed]
    refine Ev.step (fun k => serinettelaw03_NumberTakes.l0.eq_2 ..) ?_
    refine evF (by omega) ?_
    rw [he']
    exact takes_l1 l hl h30 l.length 0 (by omega)
  | succ d ih =>
    intro i b hi hb he
    have hlt : i < l.length := by omega
    have hn := numOf_rng l[i] (hl _ (List.getElem_mem hlt))
    have hd : packed (l.drop i) = encBytes (numOf l[i]) ++ packed (l.drop (i + 1)) := by
      rw [List.drop_eq_getElem_cons hlt]; unfold packed; rw [List.flatMap_cons]
    have hz := nsize_rng (numOf l[i])
    have hb' := encBytes_length (numOf l[i])
    refine Ev.step (fun k => serinettelaw03_NumberTakes.l0.eq_2 ..) ?_
    refine evT (by omega) ?_
    refine evT (by omega) ?_
    rw [rd_nat l i hlt]
    refine evB (enc_in (numOf l[i]) hn.1 hn.2) ?_
    dsimp only
    refine evT rfl ?_
    refine evT (by omega) ?_
    rw [wr _ (by omega)]
    refine evR (ih (i + 1) (b ++ encBytes (numOf l[i])) (by omega) (by rw [List.length_append]; omega) (by rw [List.append_assoc, ← hd, he])) rfl
theorem NumberTakes : serinettelaw03_NumberTakes.Pure := by
  intro l _ _ wl
  refine Ev.rounds ?_
  unfold serinettelaw03_NumberTakes.f
  refine evB awake03 ?_
  by_cases c : (l.length : Int) > 30
  · exact evT c (Ev.now _)
  refine evF c ?_
  exact takes_l0 l wl (by omega) l.length 0 [] (by omega) (by simp) rfl
end Go.Proofs.Ytgdgncdnhpflcaa.Pure
