import Derived.Test.YtgdgncdnhpflcaaPBoundTellsx6
import Derived.Test.YtgdgncdnhpflcaaLEv
import Derived.Test.YtgdgncdnhpflcaaLHead
import Derived.Test.YtgdgncdnhpflcaaFBoundTellsRcheck
import Derived.Test.YtgdgncdnhpflcaaFBoundTellsRencode
import Derived.Test.YtgdgncdnhpflcaaFBoundTellsReight
namespace Go.Proofs.Ytgdgncdnhpflcaa.FBoundTells
open Go.RowKit Go.Proofs.YtgdgncdnhpflcaaW.PrintWords Go.Proofs.YtgdgncdnhpflcaaW.PrintLast Go.Proofs.Ytgdgncdnhpflcaa.PBoundTells Go.Proofs.Ytgdgncdnhpflcaa.L
set_option linter.unusedVariables false
set_option linter.unusedSimpArgs false
theorem rcode_loop (n : Int) (l : List Int) (hl : l.length ≤ 1000) (d : Nat) : ∀ (i : Nat), i + d = l.length →
    Ev (fun k => serinetteref17_code.l0 k n l i) (if n > 0 then codeAt n (l.drop i) i else 0) := by
  induction d with
  | zero =>
    intro i hi
    refine Ev.step (fun k => serinetteref17_code.l0.eq_2 ..) ?_
    refine evF (by omega) ?_
    rw [List.drop_eq_nil_of_le (by omega)]
    simp only [codeAt]
    split <;> exact Ev.now _
  | succ d ih =>
    intro i hi
    have hlt : i < l.length := by omega
    refine Ev.step (fun k => serinetteref17_code.l0.eq_2 ..) ?_
    refine evT (by omega) ?_
    rw [wr _ (by omega)]
    have h := ih (i + 1) (by omega)
    rw [drop_cons_rd l i hlt]
    by_cases c : n > 0
    · rw [if_pos c] at h ⊢
      refine evT c ?_
      refine evT (by omega) ?_
      rw [rd_nat l i hlt]
      unfold codeAt
      exact evIte (fun e => by rw [if_pos e]; exact Ev.now _) (fun e => by rw [if_neg e]; exact h)
    · rw [if_neg c] at h ⊢
      refine evF c ?_
      exact h
theorem rcode_ev (n : Int) (l : List Int) (hl : l.length ≤ 1000) (h1 : 1 ≤ l.length) : Ev (fun k => serinetteref17_code.f k n l) (codeOf n l) := by
  unfold serinetteref17_code.f codeOf
  exact rcode_loop n l hl (l.length - 1) 1 (by omega)
/-- What is put behind all parts. -/
theorem rput_j5 (x5 x6 x7 : Int) (x8 : List Int) (b r m d n : Int) (v : Bool) (hb : 0 ≤ x5 ∧ x5 ≤ 15) (hr : 0 ≤ x6 ∧ x6 ≤ 15) (hd : 0 ≤ x7 ∧ x7 ≤ 7) (hm : 0 ≤ m ∧ m ≤ 10)
    (hn : 0 ≤ n ∧ n ≤ 68719476735) (hl : x8.length ≤ 4) (h8 : ∀ x ∈ x8, 0 ≤ x ∧ x ≤ 255) (out : List Int) (ho : out = [255, if v then 249 else 248, 16 * x5 + x6, 16 * m + 2 * x7] ++ encBytes n ++ x8) :
    Ev (fun k => serinetteref17_Put.j5 k x5 x6 x7 x8 b r m d n v) (out ++ [crc8 out], 0) := by
  have he := encBytes_length n
  have hz := nsize_rng n
  have hlen : out.length ≤ 15 := by
    rw [ho]
    simp only [List.length_append, List.length_cons, List.length_nil]
    omega
  have hrange : ∀ x ∈ out, 0 ≤ x ∧ x ≤ 255 := by
    intro x hx
    rw [ho] at hx
    simp only [List.mem_append, List.mem_cons, List.not_mem_nil, or_false] at hx
    rcases hx with ((rfl | rfl | rfl | rfl) | hx) | hx
    · omega
    · split <;> omega
    · omega
    · omega
    · exact encBytes_rng n hn.1 hn.2 x hx
    · exact h8 x hx
  have e8 := reight_ev out (by omega) hrange
  refine Ev.step (fun k => serinetteref17_Put.j5.eq_2 ..) ?_
  rw [wr (16 * x5) (by omega), wr (16 * x5 + x6) (by omega), wr (16 * m) (by omega), wr (2 * x7) (by omega), wr (16 * m + 2 * x7) (by omega),
    show (16 * x5 + x6) % 256 = 16 * x5 + x6 by omega, show (16 * m + 2 * x7) % 256 = 16 * m + 2 * x7 by omega]
  have go : ∀ (y : Int), out = [255, y, 16 * x5 + x6, 16 * m + 2 * x7] ++ encBytes n ++ x8 →
      Ev (fun k => (serinetteref03_Encode.f k n).bind fun bt => ((some ([255, y, 16 * x5 + x6, 16 * m + 2 * x7] : List Int)).bind fun y221 => (if y221.length + bt.1.length < 140737488355328 then ((some (y221 ++ bt.1 : List Int)).bind fun y224 => (if y224.length + x8.length < 140737488355328 then ((some (y224 ++ x8 : List Int)).bind fun y227 => ((serinetteref04_Eight.f k 0 y227).bind fun t230 => (if y227.length < 140737488355328 then (some ((y227 ++ [t230]), (0 : Int))) else (none)))) else (none))) else (none)))) (out ++ [crc8 out], 0) := by
    intro y hy
    refine evB (renc_in n hn.1 hn.2) ?_
    refine evC rfl ?_
    refine evT (by simp; omega) ?_
    refine evC rfl ?_
    refine evT (by simp; omega) ?_
    refine evC rfl ?_
    rw [← hy]
    refine evB e8 ?_
    refine evT (by omega) ?_
    exact Ev.now _
  cases v with
  | true => exact evT rfl (go 249 ho)
  | false => exact evF (by decide) (go 248 ho)
/-- The rate's part. -/
theorem rput_j2 (x5 x7 : Int) (x8 : List Int) (b r m d n : Int) (v : Bool) (hb : 0 ≤ x5 ∧ x5 ≤ 15) (hr : 0 ≤ r ∧ r ≤ 1048575) (hd : 0 ≤ x7 ∧ x7 ≤ 7) (hm : 0 ≤ m ∧ m ≤ 10)
    (hn : 0 ≤ n ∧ n ≤ 68719476735) (hl : x8.length ≤ 2) (h8 : ∀ x ∈ x8, 0 ≤ x ∧ x ≤ 255) (out : List Int) (ho : out = [255, if v then 249 else 248, 16 * x5 + rateCode r, 16 * m + 2 * x7] ++ encBytes n ++ (x8 ++ rateMore r)) :
    Ev (fun k => serinetteref17_Put.j2 k x5 (codeOf r hRates) x7 x8 b r m d n v) (out ++ [crc8 out], 0) := by
  have hc := codeOf_lt r hRates (by decide)
  have hc' : (hRates.length : Int) = 16 := rfl
  refine Ev.step (fun k => serinetteref17_Put.j2.eq_2 ..) ?_
  by_cases c0 : codeOf r hRates ≠ 0 ∨ r ≤ 0
  · have e1 : rateCode r = codeOf r hRates := by unfold rateCode; rw [if_pos c0]
    have e2 : rateMore r = [] := by unfold rateMore; rw [if_pos c0]
    rw [e1, e2, List.append_nil] at ho
    have h5 := rput_j5 x5 (codeOf r hRates) x7 x8 b r m d n v hb (by omega) hd hm hn (by omega) h8 out ho
    have h3 : Ev (fun k => serinetteref17_Put.j3 k x5 (codeOf r hRates) x7 x8 false b r m d n v) (out ++ [crc8 out], 0) := by
      refine Ev.step (fun k => serinetteref17_Put.j3.eq_2 ..) ?_
      exact evF (by decide) h5
    by_cases c1 : codeOf r hRates = 0
    · refine evT c1 ?_
      rw [decide_eq_false (by omega)]
      exact h3
    · exact evF c1 h3
  have c1 : codeOf r hRates = 0 := by omega
  refine evT c1 ?_
  rw [decide_eq_true (by omega)]
  refine Ev.step (fun k => serinetteref17_Put.j3.eq_2 ..) ?_
  refine evT rfl ?_
  rw [tmod_pos _ _ hr.1]
  have h4 : ¬ (r % 1000 = 0 ∧ r ≤ 255000) → Ev (fun k => serinetteref17_Put.j4 k x5 (codeOf r hRates) x7 x8 false b r m d n v) (out ++ [crc8 out], 0) := by
    intro c2
    refine Ev.step (fun k => serinetteref17_Put.j4.eq_2 ..) ?_
    refine evF (by decide) ?_
    rw [tdiv_pos _ _ hr.1, tdiv_pos _ _ hr.1, tmod_pos _ _ hr.1, tmod_pos _ _ hr.1, wr (r / 256) (by omega), wr (r / 10) (by omega), tdiv_pos _ _ (by omega), tmod_pos _ _ (by omega), wr (r / 10 / 256) (by omega)]
    by_cases c3 : r ≤ 65535
    · have e1 : rateCode r = 13 := by unfold rateCode; rw [if_neg c0, if_neg c2, if_pos c3]
      have e2 : rateMore r = [r / 256, r % 256] := by unfold rateMore; rw [if_neg c0, if_neg c2, if_pos c3]
      rw [e1, e2] at ho
      refine evT c3 ?_
      refine evC rfl ?_
      refine evT (by simp; omega) ?_
      rw [show (r / 256) % 256 = r / 256 by omega, show r % 256 % 256 = r % 256 by omega]
      refine rput_j5 x5 13 x7 _ b r m d n v hb (by omega) hd hm hn (by simp; omega) ?_ out ho
      intro x hx
      simp only [List.mem_append, List.mem_cons, List.not_mem_nil, or_false] at hx
      rcases hx with hx | rfl | rfl
      · exact h8 x hx
      · omega
      · omega
    refine evF c3 ?_
    by_cases c4 : r % 10 = 0
    · refine evT c4 ?_
      by_cases c5 : r ≤ 655350
      · have e1 : rateCode r = 14 := by unfold rateCode; rw [if_neg c0, if_neg c2, if_neg c3, if_pos ⟨c4, c5⟩]
        have e2 : rateMore r = [r / 10 / 256, r / 10 % 256] := by unfold rateMore; rw [if_neg c0, if_neg c2, if_neg c3, if_pos ⟨c4, c5⟩]
        rw [e1, e2] at ho
        refine evT c5 ?_
        refine evC rfl ?_
        refine evT (by simp; omega) ?_
        rw [show (r / 10 / 256) % 256 = r / 10 / 256 by omega, show r / 10 % 256 % 256 = r / 10 % 256 by omega]
        refine rput_j5 x5 14 x7 _ b r m d n v hb (by omega) hd hm hn (by simp; omega) ?_ out ho
        intro x hx
        simp only [List.mem_append, List.mem_cons, List.not_mem_nil, or_false] at hx
        rcases hx with hx | rfl | rfl
        · exact h8 x hx
        · omega
        · omega
      · have e1 : rateCode r = codeOf r hRates := by unfold rateCode; rw [if_neg c0, if_neg c2, if_neg c3, if_neg (by omega), c1]
        have e2 : rateMore r = [] := by unfold rateMore; rw [if_neg c0, if_neg c2, if_neg c3, if_neg (by omega)]
        rw [e1, e2, List.append_nil] at ho
        exact evF c5 (rput_j5 x5 _ x7 x8 b r m d n v hb (by omega) hd hm hn (by omega) h8 out ho)
    · have e1 : rateCode r = codeOf r hRates := by unfold rateCode; rw [if_neg c0, if_neg c2, if_neg c3, if_neg (by omega), c1]
      have e2 : rateMore r = [] := by unfold rateMore; rw [if_neg c0, if_neg c2, if_neg c3, if_neg (by omega)]
      rw [e1, e2, List.append_nil] at ho
      exact evF c4 (rput_j5 x5 _ x7 x8 b r m d n v hb (by omega) hd hm hn (by omega) h8 out ho)
  by_cases c2 : r % 1000 = 0
  · refine evT c2 ?_
    by_cases c3 : r ≤ 255000
    · have e1 : rateCode r = 12 := by unfold rateCode; rw [if_neg c0, if_pos ⟨c2, c3⟩]
      have e2 : rateMore r = [r / 1000] := by unfold rateMore; rw [if_neg c0, if_pos ⟨c2, c3⟩]
      rw [e1, e2] at ho
      rw [decide_eq_true c3]
      refine Ev.step (fun k => serinetteref17_Put.j4.eq_2 ..) ?_
      refine evT rfl ?_
      refine evT (by omega) ?_
      rw [tdiv_pos _ 1000 hr.1, wr (r / 1000) (by omega), show (r / 1000) % 256 = r / 1000 by omega]
      refine rput_j5 x5 12 x7 _ b r m d n v hb (by omega) hd hm hn (by simp; omega) ?_ out ho
      intro x hx
      simp only [List.mem_append, List.mem_cons, List.not_mem_nil, or_false] at hx
      rcases hx with hx | rfl
      · exact h8 x hx
      · omega
    · rw [decide_eq_false c3]
      exact h4 (by omega)
  · exact evF c2 (h4 (by omega))
theorem rput_ok (b r m d n : Int) (v : Bool) (h : headCheck b r m d n v = 0) (hb : 1 ≤ b ∧ b ≤ 65535) (hr : 0 ≤ r ∧ r ≤ 1048575) (hm : 0 ≤ m ∧ m ≤ 10) (hn : 0 ≤ n ∧ n ≤ 68719476735) :
    Ev (fun k => serinetteref17_Put.f k b r m d n v) (headBytes b r m d n v, 0) := by
  have hcb := codeOf_lt b hBlocks (by decide)
  have hcb' : (hBlocks.length : Int) = 16 := rfl
  have hcd := depthCode_rng d
  unfold serinetteref17_Put.f
  refine evB (rcheck_ev b r m d n v) ?_
  refine evT h ?_
  refine evC rfl ?_
  refine evB (rcode_ev b hBlocks (by decide) (by decide)) ?_
  refine evC rfl ?_
  refine evB (rcode_ev r hRates (by decide) (by decide)) ?_
  refine evC rfl ?_
  refine evB (rcode_ev d hDepths (by decide) (by decide)) ?_
  have fin : ∀ x : Bool, x = decide (codeOf b hBlocks = 0 ∧ b ≤ 256) → Ev (fun k => serinetteref17_Put.j0 k (codeOf b hBlocks) (codeOf r hRates) (codeOf d hDepths) [] x b r m d n v) (headBytes b r m d n v, 0) := by
    intro x hx
    refine Ev.step (fun k => serinetteref17_Put.j0.eq_2 ..) ?_
    unfold headBytes
    by_cases c1 : codeOf b hBlocks = 0
    · by_cases c2 : b ≤ 256
      · rw [decide_eq_true ⟨c1, c2⟩] at hx
        have e1 : blockCode b = 6 := by unfold blockCode; rw [if_neg (by omega), if_pos c2]
        have e2 : blockMore b = [b - 1] := by unfold blockMore; rw [if_neg (by omega), if_pos c2]
        refine evT hx ?_
        refine evT (by simp) ?_
        refine Ev.step (fun k => serinetteref17_Put.j1.eq_2 ..) ?_
        refine evF (by omega) ?_
        rw [wr (b - 1) (by omega), show (b - 1) % 256 = b - 1 by omega]
        refine rput_j2 6 _ _ b r m d n v (by omega) hr hcd hm hn (by simp) ?_ _ ?_
        · intro x hx; simp at hx; omega
        · unfold headBody; rw [e1, e2]; rfl
      · rw [decide_eq_false (by omega)] at hx
        have e1 : blockCode b = 7 := by unfold blockCode; rw [if_neg (by omega), if_neg c2]
        have e2 : blockMore b = [(b - 1) / 256, (b - 1) % 256] := by unfold blockMore; rw [if_neg (by omega), if_neg c2]
        refine evF (by rw [hx]; decide) ?_
        refine Ev.step (fun k => serinetteref17_Put.j1.eq_2 ..) ?_
        refine evT c1 ?_
        refine evC rfl ?_
        refine evT (by simp) ?_
        rw [wr (b - 1) (by omega), tdiv_pos _ _ (by omega), tmod_pos _ _ (by omega), wr ((b - 1) / 256) (by omega), show (b - 1) / 256 % 256 = (b - 1) / 256 by omega, show (b - 1) % 256 % 256 = (b - 1) % 256 by omega]
        refine rput_j2 7 _ _ b r m d n v (by omega) hr hcd hm hn (by simp) ?_ _ ?_
        · intro x hx; simp at hx; omega
        · unfold headBody; rw [e1, e2]; rfl
    · rw [decide_eq_false (by omega)] at hx
      have e1 : blockCode b = codeOf b hBlocks := by unfold blockCode; rw [if_pos c1]
      have e2 : blockMore b = [] := by unfold blockMore; rw [if_pos c1]
      refine evF (by rw [hx]; decide) ?_
      refine Ev.step (fun k => serinetteref17_Put.j1.eq_2 ..) ?_
      refine evF c1 ?_
      refine rput_j2 _ _ _ b r m d n v (by omega) hr hcd hm hn (by simp) ?_ _ ?_
      · intro x hx; simp at hx
      · unfold headBody; rw [e1, e2]
  by_cases c1 : codeOf b hBlocks = 0
  · exact evT c1 (fin _ (by rw [decide_eq_decide]; omega))
  · exact evF c1 (fin _ (by simp [c1]))
theorem rput_bad (b r m d n : Int) (v : Bool) (h : headCheck b r m d n v ≠ 0) : Ev (fun k => serinetteref17_Put.f k b r m d n v) ([], headCheck b r m d n v) := by
  unfold serinetteref17_Put.f
  refine evB (rcheck_ev b r m d n v) ?_
  exact evF h (Ev.now _)
end Go.Proofs.Ytgdgncdnhpflcaa.FBoundTells
