/- The statement HeadTwice: what is taken can be put; and what is put then is taken as the same. For up to thirty bytes. -/
import Derived.Test.YtbohlcccdcilkaaPHeadTwicex2
import Derived.Test.YtbohlcccdcilkaaPureHead
import Derived.Test.YtbohlcccdcilkaaPureTake
import Derived.Test.YtbohlcccdcilkaaLEv
import Derived.Test.YtbohlcccdcilkaaLNum
import Derived.Test.YtbohlcccdcilkaaLEnc
import Derived.Test.YtbohlcccdcilkaaLBits
import Derived.Test.YtbohlcccdcilkaaLDec
import Derived.Test.YtbohlcccdcilkaaLDec2
import Derived.Test.YtbohlcccdcilkaaLHead
import Derived.Test.YtbohlcccdcilkaaLTake
namespace Go.Proofs.Ytbohlcccdcilkaa.Pure
open Go.RowKit Go.Proofs.YtbohlcccdcilkaaW.PrintWords Go.Proofs.YtbohlcccdcilkaaW.PrintLast Go.Proofs.Ytbohlcccdcilkaa.PHeadTwice Go.Proofs.Ytbohlcccdcilkaa.H Go.Proofs.Ytbohlcccdcilkaa.L
set_option linter.unusedVariables false
set_option linter.unusedSimpArgs false
theorem awake17 : Ev (fun k => serinettelaw17_awake.f k) true := Ev.of (k := 40) serinettelaw17_awake.mono (by decide +kernel)
theorem headBytes_rng (b r m d n : Int) (v : Bool) (h : headCheck b r m d n v = 0) : ∀ x ∈ headBytes b r m d n v, 0 ≤ x ∧ x ≤ 255 := by
  obtain ⟨hb, hr, hm, hd, hn, hv⟩ := headZero h
  intro x hx
  rcases List.mem_append.mp hx with hx | hx
  · exact headBody_rng b r m d n v hb hr hm hn x hx
  · rw [List.mem_singleton.mp hx]
    exact crc8_rng _
theorem HeadTwice : serinettelaw17_HeadTwice.Pure := by
  intro l0 hm _ hw
  have hr : ∀ x ∈ l0, 0 ≤ x ∧ x ≤ 255 := fun x hx => wf_u8 (hw x hx)
  refine Ev.rounds ?_
  unfold serinettelaw17_HeadTwice.f
  refine evB awake17 ?_
  by_cases c : (l0.length : Int) > 30
  · exact evT c (Ev.now _)
  refine evF c ?_
  refine evB (htake_ev l0 hr (by omega)) ?_
  rcases takeP_cases l0 hr with ⟨e, he, h⟩ | ⟨b, r, m, d, n, v, s, h, h1, h2, h3, h4, h5⟩
  · rw [h]
    refine evF he ?_
    refine evT rfl ?_
    refine evT rfl ?_
    exact evR (Ev.now _) rfl
  · rw [h]
    dsimp only
    refine evT rfl ?_
    refine evB (hput_ok b r m d n v h1) ?_
    have hl := headBytes_len b r m d n v
    refine evB (htake_ev (headBytes b r m d n v) (headBytes_rng b r m d n v h1) (by omega)) ?_
    have e := takeP_head b r m d n v [] h1
    rw [List.append_nil] at e
    rw [e, h2, h3]
    dsimp only
    refine evT rfl ?_
    refine evB (hcheck_ev b r m d n v) ?_
    refine evT h1 ?_
    refine evT rfl ?_
    refine evT rfl ?_
    refine evT (by simp) ?_
    refine evT rfl ?_
    refine evT h4 ?_
    rw [decide_eq_true h5]
    exact Ev.now _
end Go.Proofs.Ytbohlcccdcilkaa.Pure
