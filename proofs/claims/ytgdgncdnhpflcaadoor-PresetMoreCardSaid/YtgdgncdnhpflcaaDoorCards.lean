/-
  DERIVED. GIVEN WITH THE SEED: THE CARDS: each row of YtgdgncdnhpflcaaDoorRows.lean that lists a variable, with what it lists TIED to the program's text (the seventh form; the later family's looks); each row that meets fmt, with fmt's text TOLD by the authors' own Lean function (tested against real Go, not proved from fmt's source: count such statements apart). THE CARD IS WHAT COUNTS. Prove the row's statement (the work); the ties are given (YtgdgncdnhpflcaaDoorTie.lean); close each card by the builder's one call (the guide's Derived/Test/ToyasCard.lean, 'card_holds'). Laid BY PROGRAM, IN A SANDBOX (cutbox-door.mjs). By AI agents, Wed Nov 11 2026. No macro, syntax, notation, axiom, sorry.
-/
import Derived.Test.YtgdgncdnhpflcaaDoorRows
import GoSem.ClaimSeven
namespace Go.Proofs.YtgdgncdnhpflcaaDoor
namespace Rows

/-- THE TIED CARD OF 'serinettelaw19.PresetTells'. -/
def presetTellsCard : Claim7 := { stood := { row := presetTellsRow, standIns := [], harness := (true, "11f97de2038fb00e3178095c68363586896ef60bed78405871fb4fa29fb3709f"), looks := false }, kinds := [], alts := [], laidByText := true, laidKinds := [.data], laidTests := true, laidLooks := .later }
def PresetTellsCardSaid : Prop := Claim7.holds Tryd.pinned (.plain (OpenSpec.ofChange presetTellsSpec)) presetTellsCard

/-- THE TIED CARD OF 'serinettelaw19.PresetMore'. -/
def presetMoreCard : Claim7 := { stood := { row := presetMoreRow, standIns := [], harness := (true, "11f97de2038fb00e3178095c68363586896ef60bed78405871fb4fa29fb3709f"), looks := false }, kinds := [], alts := [], laidByText := true, laidKinds := [.data], laidTests := true, laidLooks := .later }
def PresetMoreCardSaid : Prop := Claim7.holds Tryd.pinned (.plain (OpenSpec.ofChange presetMoreSpec)) presetMoreCard

/-- THE TIED CARD OF 'serinettelaw19.PresetChoices'. -/
def presetChoicesCard : Claim7 := { stood := { row := presetChoicesRow, standIns := [], harness := (true, "11f97de2038fb00e3178095c68363586896ef60bed78405871fb4fa29fb3709f"), looks := false }, kinds := [], alts := [], laidByText := true, laidKinds := [.data], laidTests := true, laidLooks := .later }
def PresetChoicesCardSaid : Prop := Claim7.holds Tryd.pinned (.plain (OpenSpec.ofChange presetChoicesSpec)) presetChoicesCard

/-- THE TIED CARD OF 'serinettelaw19.PresetOnce'. -/
def presetOnceCard : Claim7 := { stood := { row := presetOnceRow, standIns := [], harness := (true, "11f97de2038fb00e3178095c68363586896ef60bed78405871fb4fa29fb3709f"), looks := false }, kinds := [], alts := [], laidByText := true, laidKinds := [.data], laidTests := true, laidLooks := .later }
def PresetOnceCardSaid : Prop := Claim7.holds Tryd.pinned (.plain (OpenSpec.ofChange presetOnceSpec)) presetOnceCard

/-- THE TIED CARD OF 'serinettelaw19.PresetNine'. -/
def presetNineCard : Claim7 := { stood := { row := presetNineRow, standIns := [], harness := (true, "11f97de2038fb00e3178095c68363586896ef60bed78405871fb4fa29fb3709f"), looks := false }, kinds := [], alts := [], laidByText := true, laidKinds := [.data], laidTests := true, laidLooks := .later }
def PresetNineCardSaid : Prop := Claim7.holds Tryd.pinned (.plain (OpenSpec.ofChange presetNineSpec)) presetNineCard

/-- THE SECOND FORM's CARD OF 'serinettelaw19.PresetTells'. -/
def presetTellsUptoCard : Claim7 := { stood := { row := presetTellsUptoRow, standIns := [], harness := (true, "11f97de2038fb00e3178095c68363586896ef60bed78405871fb4fa29fb3709f"), looks := false }, kinds := [], alts := [], laidByText := true, laidKinds := [.data], laidTests := true, laidLooks := .later }
def PresetTellsUptoCardSaid : Prop := Claim7.holds Tryd.pinned (.plain (OpenSpec.upto presetTellsSpec)) presetTellsUptoCard

/-- THE SECOND FORM's CARD OF 'serinettelaw19.PresetMore'. -/
def presetMoreUptoCard : Claim7 := { stood := { row := presetMoreUptoRow, standIns := [], harness := (true, "11f97de2038fb00e3178095c68363586896ef60bed78405871fb4fa29fb3709f"), looks := false }, kinds := [], alts := [], laidByText := true, laidKinds := [.data], laidTests := true, laidLooks := .later }
def PresetMoreUptoCardSaid : Prop := Claim7.holds Tryd.pinned (.plain (OpenSpec.upto presetMoreSpec)) presetMoreUptoCard

/-- THE SECOND FORM's CARD OF 'serinettelaw19.PresetChoices'. -/
def presetChoicesUptoCard : Claim7 := { stood := { row := presetChoicesUptoRow, standIns := [], harness := (true, "11f97de2038fb00e3178095c68363586896ef60bed78405871fb4fa29fb3709f"), looks := false }, kinds := [], alts := [], laidByText := true, laidKinds := [.data], laidTests := true, laidLooks := .later }
def PresetChoicesUptoCardSaid : Prop := Claim7.holds Tryd.pinned (.plain (OpenSpec.upto presetChoicesSpec)) presetChoicesUptoCard

/-- THE SECOND FORM's CARD OF 'serinettelaw19.PresetOnce'. -/
def presetOnceUptoCard : Claim7 := { stood := { row := presetOnceUptoRow, standIns := [], harness := (true, "11f97de2038fb00e3178095c68363586896ef60bed78405871fb4fa29fb3709f"), looks := false }, kinds := [], alts := [], laidByText := true, laidKinds := [.data], laidTests := true, laidLooks := .later }
def PresetOnceUptoCardSaid : Prop := Claim7.holds Tryd.pinned (.plain (OpenSpec.upto presetOnceSpec)) presetOnceUptoCard

/-- THE SECOND FORM's CARD OF 'serinettelaw19.PresetNine'. -/
def presetNineUptoCard : Claim7 := { stood := { row := presetNineUptoRow, standIns := [], harness := (true, "11f97de2038fb00e3178095c68363586896ef60bed78405871fb4fa29fb3709f"), looks := false }, kinds := [], alts := [], laidByText := true, laidKinds := [.data], laidTests := true, laidLooks := .later }
def PresetNineUptoCardSaid : Prop := Claim7.holds Tryd.pinned (.plain (OpenSpec.upto presetNineSpec)) presetNineUptoCard
end Rows
end Go.Proofs.YtgdgncdnhpflcaaDoor
