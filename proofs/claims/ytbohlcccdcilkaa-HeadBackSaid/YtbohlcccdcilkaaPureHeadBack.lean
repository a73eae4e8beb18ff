/- The statement HeadBack: what is put is taken, but for a rate, or depth, that has no code, whatever stands behind it. For any header, up to ten bytes behind it. -/
import Derived.Test.YtbohlcccdcilkaaPHeadBackx2
import Derived.Test.YtbohlcccdcilkaaPureHead
import Derived.Test.YtbohlcccdcilkaaPureTake
import Derived.Test.YtbohlcccdcilkaaLEv
import Derived.Test.YtbohlcccdcilkaaLNum
import Derived.Test.YtbohlcccdcilkaaLEnc
import Derived.Test.YtbohlcccdcilkaaLBits
import Derived.Test.YtbohlcccdcilkaaLDec
import Derived.Test.YtbohlcccdcilkaaLDec2
import Derived.Test.YtbohlcccdcilkaaLHead
import Derived.Test.YtbohlcccdcilkaaLTake
import Derived.Test.YtbohlcccdcilkaaFHeadBackRcode
namespace Go.Proofs.Ytbohlcccdcilkaa.Pure
open Go.RowKit Go.Proofs.YtbohlcccdcilkaaW.PrintWords Go.Proofs.YtbohlcccdcilkaaW.PrintLast Go.Proofs.Ytbohlcccdcilkaa.PHeadBack Go.Proofs.Ytbohlcccdcilkaa.H Go.Proofs.Ytbohlcccdcilkaa.L Go.Proofs.Ytbohlcccdcilkaa.FHeadBack
set_option linter.unusedVariables false
set_option linter.unusedSimpArgs false
theorem awake17 : Ev (fun k => serinettelaw17_awake.f k) true := Ev.of (k := 40) serinettelaw17_awake.mono (by decide +kernel)
theorem headBytes_rng (b r m d n : Int) (v : Bool) (h : headCheck b r m d n v = 0) : ∀ x ∈ headBytes b r m d n v, 0 ≤ x ∧ x ≤ 255 := by
  obtain ⟨hb, hr, hm, hd, hn, hv⟩ := headZero h
  intro x hx
  rcases List.mem_append.mp hx with hx | hx
  · exact headBody_rng b r m d n v hb hr hm hn x hx
  · rw [List.mem_singleton.mp hx]
    exact crc8_rng _
theorem told_ev (r : Int) (hr : 0 ≤ r ∧ r ≤ 1048575) : ∃ s, Ev (fun k => serinetteref17_Told.f k r) s ∧ rOf r s = rTold r := by
  have hc := codeOf_lt r hRates (by decide)
  have hcode : Ev (fun k => serinetteref17_code.f k r hRates) (codeOf r hRates) := rcode_ev r hRates (by decide) (by decide)
  have hR : serinetteref17_Rates.f = some hRates := rfl
  have t1 : Int.tmod r 1000 = r % 1000 := tmod_pos r 1000 hr.1
  have t2 : Int.tmod r 10 = r % 10 := tmod_pos r 10 hr.1
  unfold rTold rateCode rOf
  by_cases c : codeOf r hRates > 0
  · refine ⟨true, ?_, ?_⟩
    · unfold serinetteref17_Told.f
      refine evC hR ?_
      refine evB hcode ?_
      exact evT c (Ev.now _)
    · rw [if_pos rfl, if_pos (show codeOf r hRates ≠ 0 ∨ r ≤ 0 by omega), if_neg (by omega)]
  have c0 : codeOf r hRates = 0 := by omega
  by_cases c1 : r % 1000 = 0 ∧ r ≤ 255000
  · refine ⟨true, ?_, ?_⟩
    · unfold serinetteref17_Told.f
      refine evC hR ?_
      refine evB hcode ?_
      refine evF c ?_
      refine evT (by rw [t1]; exact c1.1) ?_
      exact evT c1.2 (Ev.now _)
    · rw [if_pos rfl]
      by_cases z : r ≤ 0
      · rw [if_pos (show codeOf r hRates ≠ 0 ∨ r ≤ 0 by omega), if_pos c0]; omega
      · rw [if_neg (show ¬ (codeOf r hRates ≠ 0 ∨ r ≤ 0) by omega), if_pos c1, if_neg (by decide)]
  by_cases c2 : r ≤ 65535
  · refine ⟨true, ?_, ?_⟩
    · unfold serinetteref17_Told.f
      refine evC hR ?_
      refine evB hcode ?_
      refine evF c ?_
      by_cases c3 : r % 1000 = 0
      · refine evT (by rw [t1]; exact c3) ?_
        refine evF (by omega) ?_
        exact evT c2 (Ev.now _)
      · refine evF (by rw [t1]; exact c3) ?_
        exact evT c2 (Ev.now _)
    · rw [if_pos rfl, if_neg (show ¬ (codeOf r hRates ≠ 0 ∨ r ≤ 0) by omega), if_neg c1, if_pos c2, if_neg (by decide)]
  have tail : Ev (fun _ => if Int.tmod r 10 = 0 then some (decide (r ≤ 655350)) else some false) (decide (r % 10 = 0 ∧ r ≤ 655350)) := by
    by_cases c3 : r % 10 = 0
    · refine evT (by rw [t2]; exact c3) ?_
      refine evR (Ev.now _) ?_
      simp [c3]
    · refine evF (by rw [t2]; exact c3) ?_
      refine evR (Ev.now _) ?_
      simp [c3]
  refine ⟨decide (r % 10 = 0 ∧ r ≤ 655350), ?_, ?_⟩
  · unfold serinetteref17_Told.f
    refine evC hR ?_
    refine evB hcode ?_
    refine evF c ?_
    by_cases c3 : r % 1000 = 0
    · refine evT (by rw [t1]; exact c3) ?_
      refine evF (by omega) ?_
      exact evF c2 tail
    · refine evF (by rw [t1]; exact c3) ?_
      exact evF c2 tail
  · rw [if_neg (show ¬ (codeOf r hRates ≠ 0 ∨ r ≤ 0) by omega), if_neg c1, if_neg c2]
    by_cases c4 : r % 10 = 0 ∧ r ≤ 655350
    · rw [decide_eq_true c4, if_pos rfl, if_pos c4, if_neg (by decide)]
    · rw [decide_eq_false c4, if_neg (by decide), if_neg c4, if_pos rfl]
theorem dOf_all : ∀ d : Fin 33, ((d.val : Int) = 0 ∨ 4 ≤ (d.val : Int)) → dOf (d.val : Int) = dTold (d.val : Int) := by decide
theorem dOf_at (d : Int) (h : d = 0 ∨ 4 ≤ d ∧ d ≤ 32) : dOf d = dTold d := by
  have := dOf_all ⟨d.toNat, by omega⟩
  simp only [Int.toNat_of_nonneg (show 0 ≤ d by omega)] at this
  exact this (by omega)
theorem told_zero (b r m d n : Int) (v : Bool) (h : headCheck b r m d n v = 0) : headCheck b (rTold r) m (dTold d) n v = 0 := by
  obtain ⟨hb, hr, hm, hd, hn, hv⟩ := headZero h
  refine headZero' hb ?_ hm ?_ hn hv
  · unfold rTold; split <;> omega
  · unfold dTold; split <;> omega
theorem HeadBack : serinettelaw17_HeadBack.Pure := by
  intro b r m d n v l1 wb wr' wm wd wn hl1 hw
  have hr1 : ∀ x ∈ l1, 0 ≤ x ∧ x ≤ 255 := fun x hx => wf_u8 (hw x hx)
  refine Ev.rounds ?_
  unfold serinettelaw17_HeadBack.f
  refine evB awake17 ?_
  refine evT rfl ?_
  by_cases c : (l1.length : Int) > 10
  · exact evT c (Ev.now _)
  refine evF c ?_
  by_cases h : headCheck b r m d n v = 0
  · obtain ⟨hb, hr, hm, hd, hn, hv⟩ := headZero h
    obtain ⟨s, hs, hrs⟩ := told_ev r hr
    have hl := headBytes_len b r m d n v
    refine evB (hput_ok b r m d n v h) ?_
    refine evT rfl ?_
    dsimp only
    refine evT (by omega) ?_
    refine evB (htake_ev (headBytes b r m d n v ++ l1) (fun x hx => (List.mem_append.mp hx).elim (headBytes_rng b r m d n v h x) (hr1 x)) (by rw [List.length_append]; omega)) ?_
    rw [takeP_head b r m d n v l1 h]
    refine evB hs ?_
    dsimp only
    rw [hrs, dOf_at d hd]
    refine evT ⟨rfl, rfl, rfl, rfl, rfl, rfl, rfl, rfl⟩ ?_
    refine evB (hcheck_ev b (rTold r) m (dTold d) n v) ?_
    rw [told_zero b r m d n v h]
    exact evT ⟨rfl, by omega, by omega⟩ (Ev.now _)
  · refine evB (hput_bad b r m d n v h) ?_
    refine evF h ?_
    refine evT rfl ?_
    refine evB (hcheck_ev b r m d n v) ?_
    exact evT rfl (Ev.now _)
end Go.Proofs.Ytbohlcccdcilkaa.Pure
