/- The statement SubframeWastes: what has bits 0 behind is written without them, and comes back with them; each that is wasted is one bit less for each number, and one more for all. For up to forty numbers, a depth, how many bits are wasted. -/
import Derived.Test.YtpeejdmbnlhjmaaPSubframeWastesx2
import Derived.Test.YtpeejdmbnlhjmaaLEv
namespace Go.Proofs.Ytpeejdmbnlhjmaa.Pure
open Go.RowKit Go.Proofs.YtpeejdmbnlhjmaaW.PrintWords Go.Proofs.YtpeejdmbnlhjmaaW.PrintLast Go.Proofs.Ytpeejdmbnlhjmaa.PSubframeWastes Go.Proofs.Ytpeejdmbnlhjmaa.H Go.Proofs.Ytpeejdmbnlhjmaa.L
set_option linter.unusedVariables false
set_option linter.unusedSimpArgs false
theorem SubframeWastes : serinettelaw16_SubframeWastes.Pure := by
  intro l0 a1 a2 _ _ hw1 hw2
  refine ⟨0, ?_⟩
  unfold serinettelaw16_SubframeWastes.f
  exact if_pos ⟨wf_u8 hw1, wf_u8 hw2⟩
end Go.Proofs.Ytpeejdmbnlhjmaa.Pure
