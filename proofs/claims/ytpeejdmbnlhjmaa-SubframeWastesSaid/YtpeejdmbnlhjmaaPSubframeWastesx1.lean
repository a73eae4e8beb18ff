-- written by this session's program wip/reprint.sh (a turned copy of the kit's print): the session's own text
import Derived.Test.YtpeejdmbnlhjmaaPSubframeWastesx0
namespace Go.Proofs.Ytpeejdmbnlhjmaa.PSubframeWastes
open Go.RowKit Go.Proofs.YtpeejdmbnlhjmaaW.PrintWords Go.Proofs.YtpeejdmbnlhjmaaW.PrintLast Go.Proofs.YtpeejdmbnlhjmaaW.PrintMore Go.Proofs.Ytpeejdmbnlhjmaa.H
attribute [local go_sem] max2_int min2_int max_two min_two max_three min_three max_four min_four   -- for this text's walks alone
set_option linter.unusedVariables false
set_option linter.unusedSimpArgs false

-- NOT PRINTED: function 12 (serinettelaw16_SubframeWastes)

end Go.Proofs.Ytpeejdmbnlhjmaa.PSubframeWastes
