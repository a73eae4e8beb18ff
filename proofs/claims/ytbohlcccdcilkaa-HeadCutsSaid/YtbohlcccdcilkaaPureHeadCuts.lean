/- The statement HeadCuts: what is cut off is told to be short; what differs within 8 bits in a row isn't taken as it was. For any header, any place. -/
import Derived.Test.YtbohlcccdcilkaaPHeadCutsx2
import Derived.Test.YtbohlcccdcilkaaPureHead
import Derived.Test.YtbohlcccdcilkaaPureTake
import Derived.Test.YtbohlcccdcilkaaLEv
import Derived.Test.YtbohlcccdcilkaaLNum
import Derived.Test.YtbohlcccdcilkaaLEnc
import Derived.Test.YtbohlcccdcilkaaLBits
import Derived.Test.YtbohlcccdcilkaaLDec2
import Derived.Test.YtbohlcccdcilkaaLHead
import Derived.Test.YtbohlcccdcilkaaLTake
import Derived.Test.YtbohlcccdcilkaaLFlip
namespace Go.Proofs.Ytbohlcccdcilkaa.Pure
open Go.RowKit Go.Proofs.YtbohlcccdcilkaaW.PrintWords Go.Proofs.YtbohlcccdcilkaaW.PrintLast Go.Proofs.Ytbohlcccdcilkaa.PHeadCuts Go.Proofs.Ytbohlcccdcilkaa.H Go.Proofs.Ytbohlcccdcilkaa.L
set_option linter.unusedVariables false
set_option linter.unusedSimpArgs false
theorem awake17 : Ev (fun k => serinettelaw17_awake.f k) true := Ev.of (k := 40) serinettelaw17_awake.mono (by decide +kernel)
theorem headBytes_rng (b r m d n : Int) (v : Bool) (h : headCheck b r m d n v = 0) : ∀ x ∈ headBytes b r m d n v, 0 ≤ x ∧ x ≤ 255 := by
  obtain ⟨hb, hr, hm, hd, hn, hv⟩ := headZero h
  intro x hx
  rcases List.mem_append.mp hx with hx | hx
  · exact headBody_rng b r m d n v hb hr hm hn x hx
  · rw [List.mem_singleton.mp hx]
    exact crc8_rng _
theorem HeadCuts : serinettelaw17_HeadCuts.Pure := by
  intro b r m d n v a1 a2 a3 wb wr' wm wd wn w1 w2 w3
  refine Ev.rounds ?_
  unfold serinettelaw17_HeadCuts.f
  refine evB awake17 ?_
  refine evT rfl ?_
  by_cases h : headCheck b r m d n v = 0
  · have hl := headBytes_len b r m d n v
    have hrng := headBytes_rng b r m d n v h
    refine evB (hput_ok b r m d n v h) ?_
    refine evT rfl ?_
    dsimp only
    have e2 := takeP_head b r m d n v [] h
    rw [List.append_nil] at e2
    have hcut := takeP_cut b r m d n v
    have hcuts := cuts_told b r m d n v h hrng
    have hspec := fun k y => cuts_spec 8 k (headBytes b r m d n v) y false hrng
    generalize headBytes b r m d n v = L at *
    refine evT ⟨⟨by omega, by omega⟩, wf_u8 w1, wf_u8 w2, wf_u8 w3, hrng⟩ ?_
    have hm1 := Int.emod_lt_of_pos a1 (show (0 : Int) < (L.length : Int) by omega)
    have hm0 := Int.emod_nonneg a1 (show (L.length : Int) ≠ 0 by omega)
    refine evB (htake_ev _ (fun x hx => hrng x (List.mem_of_mem_take hx)) (by rw [List.length_take]; omega)) ?_
    refine evB (htake_ev L hrng (by omega)) ?_
    obtain ⟨s1, s2, _⟩ := hspec (a2 % (8 * (L.length : Int))).toNat a3
    refine evB (htake_ev _ s1 (by omega)) ?_
    refine evT ⟨?_, ?_, ?_, ?_⟩ (Ev.now _)
    · rw [hcut (a1 % (L.length : Int)).toNat h (by omega)]
      rfl
    · rw [e2]
    · rw [e2]
    · cases hc : (cutsL 8 (a2 % (8 * (L.length : Int))).toNat L a3 false).2
      · exact .inl rfl
      · exact .inr (hcuts _ a3 hc)
  · refine evB (hput_bad b r m d n v h) ?_
    exact evF h (Ev.now _)
end Go.Proofs.Ytbohlcccdcilkaa.Pure
