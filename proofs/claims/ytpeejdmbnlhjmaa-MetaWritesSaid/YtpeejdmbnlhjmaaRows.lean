/-
  No cell of these rows narrows 'for every input' (looked for: loops, veiled, ifaces, maps, wideKeys, modest, calm, conditions, laid).
  DERIVED. THE GIVEN ROWS OF THIS SEAT. 13 by the template 'for every input the law returns true; each argument reads behind the call as it read before'; 0 by the template 'total and deterministic' (their statements: YtpeejdmbnlhjmaaTotals.lean).
  GIVEN WITH THE SEED: the statements are not yours to turn. If you find one false, say at which input.
  Laid BY PROGRAM, IN A SANDBOX (cutbox-rows.mjs): the forced cells as the released guide's own fill.sh prints them over the translation 48947078820cfca6… (all of the seat's roots in one cut). By AI agents, Wed Nov 11 2026. No macro, syntax, notation, axiom, sorry.
-/
import Derived.Test.YtpeejdmbnlhjmaaChecked
import GoSem.Claim
import GoSem.ClaimJoined
import GoSem.ClaimMapViews
import Derived.JoinedTies
import Derived.KernelRfl
namespace Go.Proofs.Ytpeejdmbnlhjmaa
/- THE CELL 'sum', in the pinned program and in every row, IS THE sha256 OF THE DUMP (.gsa) THAT YtpeejdmbnlhjmaaProg.lean LOADS. Nothing in Lean hashes anything: it is a label: what it is worth is what the hold of that sum in a sandbox is worth. -/
noncomputable def Try.pinned : Pinned := { name := "ytpeejdmbnlhjmaa", sum := "48947078820cfca61b97e5ddc3684f0fefdaf840db6eaa35a0a50023eb4ed93b", checked := Try.checked }
namespace Rows
def none {H : Type} : Left H := { results := [], args := [] }

/-- 'serinettelaw18.MetaReads': WHATEVER THE INPUT: true; the input reads as it did. -/
def metaReadsSpec : ChangeSpec := { name := "metaReads", fn := fun _ => fun
  | [d] => { results := [.lit (.bool true)], args := [d] }
  | _ => none }
def metaReadsRow : OpenClaim := { program := "ytpeejdmbnlhjmaa", sum := "48947078820cfca61b97e5ddc3684f0fefdaf840db6eaa35a0a50023eb4ed93b", func := "serinette/serinettelaw18.MetaReads", spec := "metaReads", inPlace := ["internal/bytealg.IndexByteString", "internal/bytealg.IndexString"], unfollowed := true, recurses := true, named := ["internal/bytealg.MaxLen"], apart := false }
def MetaReadsSaid : Prop := metaReadsRow.holds Try.pinned (OpenSpec.ofChange metaReadsSpec)

/-- ITS FALSE NEIGHBOUR: 'it returns false'. Refute it at one input. -/
def metaReadsWrong : ChangeSpec := { name := "metaReads", fn := fun _ => fun
  | [d] => { results := [.lit (.bool false)], args := [d] }
  | _ => none }
def MetaReadsWrongFalsely : Prop := metaReadsRow.holds Try.pinned (OpenSpec.ofChange metaReadsWrong)

/-- 'serinettelaw18.MetaTexts': WHATEVER THE INPUT: true; the input reads as it did. -/
def metaTextsSpec : ChangeSpec := { name := "metaTexts", fn := fun _ => fun
  | [d] => { results := [.lit (.bool true)], args := [d] }
  | _ => none }
def metaTextsRow : OpenClaim := { program := "ytpeejdmbnlhjmaa", sum := "48947078820cfca61b97e5ddc3684f0fefdaf840db6eaa35a0a50023eb4ed93b", func := "serinette/serinettelaw18.MetaTexts", spec := "metaTexts", inPlace := ["internal/bytealg.IndexByteString", "internal/bytealg.IndexString"], unfollowed := true, recurses := true, named := ["internal/bytealg.MaxLen"], apart := false }
def MetaTextsSaid : Prop := metaTextsRow.holds Try.pinned (OpenSpec.ofChange metaTextsSpec)

/-- ITS FALSE NEIGHBOUR: 'it returns false'. Refute it at one input. -/
def metaTextsWrong : ChangeSpec := { name := "metaTexts", fn := fun _ => fun
  | [d] => { results := [.lit (.bool false)], args := [d] }
  | _ => none }
def MetaTextsWrongFalsely : Prop := metaTextsRow.holds Try.pinned (OpenSpec.ofChange metaTextsWrong)

/-- 'serinettelaw18.MetaWrites': WHATEVER THE INPUT: true; the input reads as it did. -/
def metaWritesSpec : ChangeSpec := { name := "metaWrites", fn := fun _ => fun
  | [d1, d2, d3, d4, d5] => { results := [.lit (.bool true)], args := [d1, d2, d3, d4, d5] }
  | _ => none }
def metaWritesRow : OpenClaim := { program := "ytpeejdmbnlhjmaa", sum := "48947078820cfca61b97e5ddc3684f0fefdaf840db6eaa35a0a50023eb4ed93b", func := "serinette/serinettelaw18.MetaWrites", spec := "metaWrites", inPlace := ["internal/bytealg.IndexByteString", "internal/bytealg.IndexString"], unfollowed := true, recurses := true, named := ["internal/bytealg.MaxLen"], apart := false }
def MetaWritesSaid : Prop := metaWritesRow.holds Try.pinned (OpenSpec.ofChange metaWritesSpec)

/-- ITS FALSE NEIGHBOUR: 'it returns false'. Refute it at one input. -/
def metaWritesWrong : ChangeSpec := { name := "metaWrites", fn := fun _ => fun
  | [d1, d2, d3, d4, d5] => { results := [.lit (.bool false)], args := [d1, d2, d3, d4, d5] }
  | _ => none }
def MetaWritesWrongFalsely : Prop := metaWritesRow.holds Try.pinned (OpenSpec.ofChange metaWritesWrong)

/-- 'serinettelaw18.MetaBack': WHATEVER THE INPUT: true; the input reads as it did. -/
def metaBackSpec : ChangeSpec := { name := "metaBack", fn := fun _ => fun
  | [d1, d2, d3, d4] => { results := [.lit (.bool true)], args := [d1, d2, d3, d4] }
  | _ => none }
def metaBackRow : OpenClaim := { program := "ytpeejdmbnlhjmaa", sum := "48947078820cfca61b97e5ddc3684f0fefdaf840db6eaa35a0a50023eb4ed93b", func := "serinette/serinettelaw18.MetaBack", spec := "metaBack", inPlace := ["internal/bytealg.IndexByteString", "internal/bytealg.IndexString"], unfollowed := true, recurses := true, named := ["internal/bytealg.MaxLen"], apart := false }
def MetaBackSaid : Prop := metaBackRow.holds Try.pinned (OpenSpec.ofChange metaBackSpec)

/-- ITS FALSE NEIGHBOUR: 'it returns false'. Refute it at one input. -/
def metaBackWrong : ChangeSpec := { name := "metaBack", fn := fun _ => fun
  | [d1, d2, d3, d4] => { results := [.lit (.bool false)], args := [d1, d2, d3, d4] }
  | _ => none }
def MetaBackWrongFalsely : Prop := metaBackRow.holds Try.pinned (OpenSpec.ofChange metaBackWrong)

/-- 'serinettelaw18.MetaSizes': WHATEVER THE INPUT: true; the input reads as it did. -/
def metaSizesSpec : ChangeSpec := { name := "metaSizes", fn := fun _ => fun
  | [d] => { results := [.lit (.bool true)], args := [d] }
  | _ => none }
def metaSizesRow : OpenClaim := { program := "ytpeejdmbnlhjmaa", sum := "48947078820cfca61b97e5ddc3684f0fefdaf840db6eaa35a0a50023eb4ed93b", func := "serinette/serinettelaw18.MetaSizes", spec := "metaSizes", inPlace := ["internal/bytealg.IndexByteString", "internal/bytealg.IndexString"], unfollowed := true, recurses := true, named := ["internal/bytealg.MaxLen"], apart := false }
def MetaSizesSaid : Prop := metaSizesRow.holds Try.pinned (OpenSpec.ofChange metaSizesSpec)

/-- ITS FALSE NEIGHBOUR: 'it returns false'. Refute it at one input. -/
def metaSizesWrong : ChangeSpec := { name := "metaSizes", fn := fun _ => fun
  | [d] => { results := [.lit (.bool false)], args := [d] }
  | _ => none }
def MetaSizesWrongFalsely : Prop := metaSizesRow.holds Try.pinned (OpenSpec.ofChange metaSizesWrong)

/-- 'serinettelaw18.MetaPacks': WHATEVER THE INPUT: true; the input reads as it did. -/
def metaPacksSpec : ChangeSpec := { name := "metaPacks", fn := fun _ => fun
  | [d1, d2] => { results := [.lit (.bool true)], args := [d1, d2] }
  | _ => none }
def metaPacksRow : OpenClaim := { program := "ytpeejdmbnlhjmaa", sum := "48947078820cfca61b97e5ddc3684f0fefdaf840db6eaa35a0a50023eb4ed93b", func := "serinette/serinettelaw18.MetaPacks", spec := "metaPacks", inPlace := ["internal/bytealg.IndexByteString", "internal/bytealg.IndexString"], unfollowed := true, recurses := true, named := ["internal/bytealg.MaxLen"], apart := false }
def MetaPacksSaid : Prop := metaPacksRow.holds Try.pinned (OpenSpec.ofChange metaPacksSpec)

/-- ITS FALSE NEIGHBOUR: 'it returns false'. Refute it at one input. -/
def metaPacksWrong : ChangeSpec := { name := "metaPacks", fn := fun _ => fun
  | [d1, d2] => { results := [.lit (.bool false)], args := [d1, d2] }
  | _ => none }
def MetaPacksWrongFalsely : Prop := metaPacksRow.holds Try.pinned (OpenSpec.ofChange metaPacksWrong)

/-- 'serinettelaw18.MetaAgain': WHATEVER THE INPUT: true; the input reads as it did. -/
def metaAgainSpec : ChangeSpec := { name := "metaAgain", fn := fun _ => fun
  | [d1, d2, d3, d4] => { results := [.lit (.bool true)], args := [d1, d2, d3, d4] }
  | _ => none }
def metaAgainRow : OpenClaim := { program := "ytpeejdmbnlhjmaa", sum := "48947078820cfca61b97e5ddc3684f0fefdaf840db6eaa35a0a50023eb4ed93b", func := "serinette/serinettelaw18.MetaAgain", spec := "metaAgain", inPlace := ["internal/bytealg.IndexByteString", "internal/bytealg.IndexString"], unfollowed := true, recurses := true, named := ["internal/bytealg.MaxLen"], apart := false }
def MetaAgainSaid : Prop := metaAgainRow.holds Try.pinned (OpenSpec.ofChange metaAgainSpec)

/-- ITS FALSE NEIGHBOUR: 'it returns false'. Refute it at one input. -/
def metaAgainWrong : ChangeSpec := { name := "metaAgain", fn := fun _ => fun
  | [d1, d2, d3, d4] => { results := [.lit (.bool false)], args := [d1, d2, d3, d4] }
  | _ => none }
def MetaAgainWrongFalsely : Prop := metaAgainRow.holds Try.pinned (OpenSpec.ofChange metaAgainWrong)

/-- 'serinettelaw16.SubframeVerbatim': WHATEVER THE INPUT: true; the input reads as it did. -/
def subframeVerbatimSpec : ChangeSpec := { name := "subframeVerbatim", fn := fun _ => fun
  | [d1, d2] => { results := [.lit (.bool true)], args := [d1, d2] }
  | _ => none }
def subframeVerbatimRow : OpenClaim := { program := "ytpeejdmbnlhjmaa", sum := "48947078820cfca61b97e5ddc3684f0fefdaf840db6eaa35a0a50023eb4ed93b", func := "serinette/serinettelaw16.SubframeVerbatim", spec := "subframeVerbatim", unfollowed := true, recurses := true, apart := false }
def SubframeVerbatimSaid : Prop := subframeVerbatimRow.holds Try.pinned (OpenSpec.ofChange subframeVerbatimSpec)

/-- ITS FALSE NEIGHBOUR: 'it returns false'. Refute it at one input. -/
def subframeVerbatimWrong : ChangeSpec := { name := "subframeVerbatim", fn := fun _ => fun
  | [d1, d2] => { results := [.lit (.bool false)], args := [d1, d2] }
  | _ => none }
def SubframeVerbatimWrongFalsely : Prop := subframeVerbatimRow.holds Try.pinned (OpenSpec.ofChange subframeVerbatimWrong)

/-- 'serinettelaw16.SubframeLinear': WHATEVER THE INPUT: true; the input reads as it did. -/
def subframeLinearSpec : ChangeSpec := { name := "subframeLinear", fn := fun _ => fun
  | [d1, d2, d3] => { results := [.lit (.bool true)], args := [d1, d2, d3] }
  | _ => none }
def subframeLinearRow : OpenClaim := { program := "ytpeejdmbnlhjmaa", sum := "48947078820cfca61b97e5ddc3684f0fefdaf840db6eaa35a0a50023eb4ed93b", func := "serinette/serinettelaw16.SubframeLinear", spec := "subframeLinear", unfollowed := true, recurses := true, apart := false }
def SubframeLinearSaid : Prop := subframeLinearRow.holds Try.pinned (OpenSpec.ofChange subframeLinearSpec)

/-- ITS FALSE NEIGHBOUR: 'it returns false'. Refute it at one input. -/
def subframeLinearWrong : ChangeSpec := { name := "subframeLinear", fn := fun _ => fun
  | [d1, d2, d3] => { results := [.lit (.bool false)], args := [d1, d2, d3] }
  | _ => none }
def SubframeLinearWrongFalsely : Prop := subframeLinearRow.holds Try.pinned (OpenSpec.ofChange subframeLinearWrong)

/-- 'serinettelaw16.SubframeWastes': WHATEVER THE INPUT: true; the input reads as it did. -/
def subframeWastesSpec : ChangeSpec := { name := "subframeWastes", fn := fun _ => fun
  | [d1, d2, d3] => { results := [.lit (.bool true)], args := [d1, d2, d3] }
  | _ => none }
def subframeWastesRow : OpenClaim := { program := "ytpeejdmbnlhjmaa", sum := "48947078820cfca61b97e5ddc3684f0fefdaf840db6eaa35a0a50023eb4ed93b", func := "serinette/serinettelaw16.SubframeWastes", spec := "subframeWastes", unfollowed := true, recurses := true, apart := false }
def SubframeWastesSaid : Prop := subframeWastesRow.holds Try.pinned (OpenSpec.ofChange subframeWastesSpec)

/-- ITS FALSE NEIGHBOUR: 'it returns false'. Refute it at one input. -/
def subframeWastesWrong : ChangeSpec := { name := "subframeWastes", fn := fun _ => fun
  | [d1, d2, d3] => { results := [.lit (.bool false)], args := [d1, d2, d3] }
  | _ => none }
def SubframeWastesWrongFalsely : Prop := subframeWastesRow.holds Try.pinned (OpenSpec.ofChange subframeWastesWrong)

/-- 'serinettelaw16.SubframeTakes': WHATEVER THE INPUT: true; the input reads as it did. -/
def subframeTakesSpec : ChangeSpec := { name := "subframeTakes", fn := fun _ => fun
  | [d1, d2, d3] => { results := [.lit (.bool true)], args := [d1, d2, d3] }
  | _ => none }
def subframeTakesRow : OpenClaim := { program := "ytpeejdmbnlhjmaa", sum := "48947078820cfca61b97e5ddc3684f0fefdaf840db6eaa35a0a50023eb4ed93b", func := "serinette/serinettelaw16.SubframeTakes", spec := "subframeTakes", unfollowed := true, recurses := true, apart := false }
def SubframeTakesSaid : Prop := subframeTakesRow.holds Try.pinned (OpenSpec.ofChange subframeTakesSpec)

/-- ITS FALSE NEIGHBOUR: 'it returns false'. Refute it at one input. -/
def subframeTakesWrong : ChangeSpec := { name := "subframeTakes", fn := fun _ => fun
  | [d1, d2, d3] => { results := [.lit (.bool false)], args := [d1, d2, d3] }
  | _ => none }
def SubframeTakesWrongFalsely : Prop := subframeTakesRow.holds Try.pinned (OpenSpec.ofChange subframeTakesWrong)

/-- 'serinettelaw16.SubframeBack': WHATEVER THE INPUT: true; the input reads as it did. -/
def subframeBackSpec : ChangeSpec := { name := "subframeBack", fn := fun _ => fun
  | [d1, d2, d3, d4] => { results := [.lit (.bool true)], args := [d1, d2, d3, d4] }
  | _ => none }
def subframeBackRow : OpenClaim := { program := "ytpeejdmbnlhjmaa", sum := "48947078820cfca61b97e5ddc3684f0fefdaf840db6eaa35a0a50023eb4ed93b", func := "serinette/serinettelaw16.SubframeBack", spec := "subframeBack", unfollowed := true, recurses := true, apart := false }
def SubframeBackSaid : Prop := subframeBackRow.holds Try.pinned (OpenSpec.ofChange subframeBackSpec)

/-- ITS FALSE NEIGHBOUR: 'it returns false'. Refute it at one input. -/
def subframeBackWrong : ChangeSpec := { name := "subframeBack", fn := fun _ => fun
  | [d1, d2, d3, d4] => { results := [.lit (.bool false)], args := [d1, d2, d3, d4] }
  | _ => none }
def SubframeBackWrongFalsely : Prop := subframeBackRow.holds Try.pinned (OpenSpec.ofChange subframeBackWrong)

/-- 'serinettelaw16.SubframeAgain': WHATEVER THE INPUT: true; the input reads as it did. -/
def subframeAgainSpec : ChangeSpec := { name := "subframeAgain", fn := fun _ => fun
  | [d1, d2, d3] => { results := [.lit (.bool true)], args := [d1, d2, d3] }
  | _ => none }
def subframeAgainRow : OpenClaim := { program := "ytpeejdmbnlhjmaa", sum := "48947078820cfca61b97e5ddc3684f0fefdaf840db6eaa35a0a50023eb4ed93b", func := "serinette/serinettelaw16.SubframeAgain", spec := "subframeAgain", unfollowed := true, recurses := true, apart := false }
def SubframeAgainSaid : Prop := subframeAgainRow.holds Try.pinned (OpenSpec.ofChange subframeAgainSpec)

/-- ITS FALSE NEIGHBOUR: 'it returns false'. Refute it at one input. -/
def subframeAgainWrong : ChangeSpec := { name := "subframeAgain", fn := fun _ => fun
  | [d1, d2, d3] => { results := [.lit (.bool false)], args := [d1, d2, d3] }
  | _ => none }
def SubframeAgainWrongFalsely : Prop := subframeAgainRow.holds Try.pinned (OpenSpec.ofChange subframeAgainWrong)

/- THE SECOND FORM. 'bulk': how many values and letters a reading holds, each counted each time it is reached (what is shared counts as often as it is met; a slice's spare places count too). A statement '..UptoSaid' is the law's where the arguments, and the package variables that the reading takes, are together of bulk at most 1048576: NARROWER than '..Said'. Prove '..Said' where nothing that the law and all that it calls make is longer than what came in: it says more and counts as full. Else prove '..UptoSaid'. A law counts once. -/
mutual
def uptoBulk {H : Type} : DataW H → Nat
  | .lit (.string bytes) => bytes.length + 1
  | .lit _ => 1
  | .nil => 1
  | .ptr d => uptoBulk d + 1
  | .slice elems spare => uptoBulkAll elems + uptoBulkAll spare + 1
  | .agg parts => uptoBulkAll parts + 1
  | .iface _ d => uptoBulk d + 1
  | .map entries => uptoBulkEntries entries + 1
  | .held _ => 1
def uptoBulkAll {H : Type} : List (DataW H) → Nat
  | [] => 0
  | d :: r => uptoBulk d + uptoBulkAll r
def uptoBulkEntries {H : Type} : List (Lit × DataW H) → Nat
  | [] => 0
  | x :: r => uptoBulkEntry x + uptoBulkEntries r
def uptoBulkEntry {H : Type} : Lit × DataW H → Nat
  | (.string bytes, d) => bytes.length + uptoBulk d + 1
  | (_, d) => uptoBulk d + 1
 end
def uptoSmall : (H : Type) → List (DataW H) → Bool := fun _ ds => decide (uptoBulkAll ds ≤ 1048576)
def OpenSpec.upto (s : _root_.Go.ChangeSpec) : _root_.Go.OpenSpec := { _root_.Go.OpenSpec.ofChange s with cond := some uptoSmall }

/-- 'serinettelaw18.MetaReads', WHERE WHAT IT READS IS OF BULK AT MOST 1048576: true; the input reads as it did. -/
def metaReadsUptoRow : OpenClaim := { program := "ytpeejdmbnlhjmaa", sum := "48947078820cfca61b97e5ddc3684f0fefdaf840db6eaa35a0a50023eb4ed93b", func := "serinette/serinettelaw18.MetaReads", spec := "metaReads", inPlace := ["internal/bytealg.IndexByteString", "internal/bytealg.IndexString"], unfollowed := true, recurses := true, named := ["internal/bytealg.MaxLen"], apart := false, narrowed := true }
def MetaReadsUptoSaid : Prop := metaReadsUptoRow.holds Try.pinned (OpenSpec.upto metaReadsSpec)

/-- 'serinettelaw18.MetaTexts', WHERE WHAT IT READS IS OF BULK AT MOST 1048576: true; the input reads as it did. -/
def metaTextsUptoRow : OpenClaim := { program := "ytpeejdmbnlhjmaa", sum := "48947078820cfca61b97e5ddc3684f0fefdaf840db6eaa35a0a50023eb4ed93b", func := "serinette/serinettelaw18.MetaTexts", spec := "metaTexts", inPlace := ["internal/bytealg.IndexByteString", "internal/bytealg.IndexString"], unfollowed := true, recurses := true, named := ["internal/bytealg.MaxLen"], apart := false, narrowed := true }
def MetaTextsUptoSaid : Prop := metaTextsUptoRow.holds Try.pinned (OpenSpec.upto metaTextsSpec)

/-- 'serinettelaw18.MetaWrites', WHERE WHAT IT READS IS OF BULK AT MOST 1048576: true; the input reads as it did. -/
def metaWritesUptoRow : OpenClaim := { program := "ytpeejdmbnlhjmaa", sum := "48947078820cfca61b97e5ddc3684f0fefdaf840db6eaa35a0a50023eb4ed93b", func := "serinette/serinettelaw18.MetaWrites", spec := "metaWrites", inPlace := ["internal/bytealg.IndexByteString", "internal/bytealg.IndexString"], unfollowed := true, recurses := true, named := ["internal/bytealg.MaxLen"], apart := false, narrowed := true }
def MetaWritesUptoSaid : Prop := metaWritesUptoRow.holds Try.pinned (OpenSpec.upto metaWritesSpec)

/-- 'serinettelaw18.MetaBack', WHERE WHAT IT READS IS OF BULK AT MOST 1048576: true; the input reads as it did. -/
def metaBackUptoRow : OpenClaim := { program := "ytpeejdmbnlhjmaa", sum := "48947078820cfca61b97e5ddc3684f0fefdaf840db6eaa35a0a50023eb4ed93b", func := "serinette/serinettelaw18.MetaBack", spec := "metaBack", inPlace := ["internal/bytealg.IndexByteString", "internal/bytealg.IndexString"], unfollowed := true, recurses := true, named := ["internal/bytealg.MaxLen"], apart := false, narrowed := true }
def MetaBackUptoSaid : Prop := metaBackUptoRow.holds Try.pinned (OpenSpec.upto metaBackSpec)

/-- 'serinettelaw18.MetaSizes', WHERE WHAT IT READS IS OF BULK AT MOST 1048576: true; the input reads as it did. -/
def metaSizesUptoRow : OpenClaim := { program := "ytpeejdmbnlhjmaa", sum := "48947078820cfca61b97e5ddc3684f0fefdaf840db6eaa35a0a50023eb4ed93b", func := "serinette/serinettelaw18.MetaSizes", spec := "metaSizes", inPlace := ["internal/bytealg.IndexByteString", "internal/bytealg.IndexString"], unfollowed := true, recurses := true, named := ["internal/bytealg.MaxLen"], apart := false, narrowed := true }
def MetaSizesUptoSaid : Prop := metaSizesUptoRow.holds Try.pinned (OpenSpec.upto metaSizesSpec)

/-- 'serinettelaw18.MetaPacks', WHERE WHAT IT READS IS OF BULK AT MOST 1048576: true; the input reads as it did. -/
def metaPacksUptoRow : OpenClaim := { program := "ytpeejdmbnlhjmaa", sum := "48947078820cfca61b97e5ddc3684f0fefdaf840db6eaa35a0a50023eb4ed93b", func := "serinette/serinettelaw18.MetaPacks", spec := "metaPacks", inPlace := ["internal/bytealg.IndexByteString", "internal/bytealg.IndexString"], unfollowed := true, recurses := true, named := ["internal/bytealg.MaxLen"], apart := false, narrowed := true }
def MetaPacksUptoSaid : Prop := metaPacksUptoRow.holds Try.pinned (OpenSpec.upto metaPacksSpec)

/-- 'serinettelaw18.MetaAgain', WHERE WHAT IT READS IS OF BULK AT MOST 1048576: true; the input reads as it did. -/
def metaAgainUptoRow : OpenClaim := { program := "ytpeejdmbnlhjmaa", sum := "48947078820cfca61b97e5ddc3684f0fefdaf840db6eaa35a0a50023eb4ed93b", func := "serinette/serinettelaw18.MetaAgain", spec := "metaAgain", inPlace := ["internal/bytealg.IndexByteString", "internal/bytealg.IndexString"], unfollowed := true, recurses := true, named := ["internal/bytealg.MaxLen"], apart := false, narrowed := true }
def MetaAgainUptoSaid : Prop := metaAgainUptoRow.holds Try.pinned (OpenSpec.upto metaAgainSpec)

/-- 'serinettelaw16.SubframeVerbatim', WHERE WHAT IT READS IS OF BULK AT MOST 1048576: true; the input reads as it did. -/
def subframeVerbatimUptoRow : OpenClaim := { program := "ytpeejdmbnlhjmaa", sum := "48947078820cfca61b97e5ddc3684f0fefdaf840db6eaa35a0a50023eb4ed93b", func := "serinette/serinettelaw16.SubframeVerbatim", spec := "subframeVerbatim", unfollowed := true, recurses := true, apart := false, narrowed := true }
def SubframeVerbatimUptoSaid : Prop := subframeVerbatimUptoRow.holds Try.pinned (OpenSpec.upto subframeVerbatimSpec)

/-- 'serinettelaw16.SubframeLinear', WHERE WHAT IT READS IS OF BULK AT MOST 1048576: true; the input reads as it did. -/
def subframeLinearUptoRow : OpenClaim := { program := "ytpeejdmbnlhjmaa", sum := "48947078820cfca61b97e5ddc3684f0fefdaf840db6eaa35a0a50023eb4ed93b", func := "serinette/serinettelaw16.SubframeLinear", spec := "subframeLinear", unfollowed := true, recurses := true, apart := false, narrowed := true }
def SubframeLinearUptoSaid : Prop := subframeLinearUptoRow.holds Try.pinned (OpenSpec.upto subframeLinearSpec)

/-- 'serinettelaw16.SubframeWastes', WHERE WHAT IT READS IS OF BULK AT MOST 1048576: true; the input reads as it did. -/
def subframeWastesUptoRow : OpenClaim := { program := "ytpeejdmbnlhjmaa", sum := "48947078820cfca61b97e5ddc3684f0fefdaf840db6eaa35a0a50023eb4ed93b", func := "serinette/serinettelaw16.SubframeWastes", spec := "subframeWastes", unfollowed := true, recurses := true, apart := false, narrowed := true }
def SubframeWastesUptoSaid : Prop := subframeWastesUptoRow.holds Try.pinned (OpenSpec.upto subframeWastesSpec)

/-- 'serinettelaw16.SubframeTakes', WHERE WHAT IT READS IS OF BULK AT MOST 1048576: true; the input reads as it did. -/
def subframeTakesUptoRow : OpenClaim := { program := "ytpeejdmbnlhjmaa", sum := "48947078820cfca61b97e5ddc3684f0fefdaf840db6eaa35a0a50023eb4ed93b", func := "serinette/serinettelaw16.SubframeTakes", spec := "subframeTakes", unfollowed := true, recurses := true, apart := false, narrowed := true }
def SubframeTakesUptoSaid : Prop := subframeTakesUptoRow.holds Try.pinned (OpenSpec.upto subframeTakesSpec)

/-- 'serinettelaw16.SubframeBack', WHERE WHAT IT READS IS OF BULK AT MOST 1048576: true; the input reads as it did. -/
def subframeBackUptoRow : OpenClaim := { program := "ytpeejdmbnlhjmaa", sum := "48947078820cfca61b97e5ddc3684f0fefdaf840db6eaa35a0a50023eb4ed93b", func := "serinette/serinettelaw16.SubframeBack", spec := "subframeBack", unfollowed := true, recurses := true, apart := false, narrowed := true }
def SubframeBackUptoSaid : Prop := subframeBackUptoRow.holds Try.pinned (OpenSpec.upto subframeBackSpec)

/-- 'serinettelaw16.SubframeAgain', WHERE WHAT IT READS IS OF BULK AT MOST 1048576: true; the input reads as it did. -/
def subframeAgainUptoRow : OpenClaim := { program := "ytpeejdmbnlhjmaa", sum := "48947078820cfca61b97e5ddc3684f0fefdaf840db6eaa35a0a50023eb4ed93b", func := "serinette/serinettelaw16.SubframeAgain", spec := "subframeAgain", unfollowed := true, recurses := true, apart := false, narrowed := true }
def SubframeAgainUptoSaid : Prop := subframeAgainUptoRow.holds Try.pinned (OpenSpec.upto subframeAgainSpec)

end Rows
end Go.Proofs.Ytpeejdmbnlhjmaa
