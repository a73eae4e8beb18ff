/-
  No cell of these rows narrows 'for every input' (looked for: loops, veiled, ifaces, maps, wideKeys, modest, calm, conditions, laid).
  DERIVED. THE GIVEN ROWS OF THIS SEAT. 13 by the template 'for every input the law returns true; each argument reads behind the call as it read before'; 0 by the template 'total and deterministic' (their statements: YtgdgncdnhpflcaaTotals.lean).
  GIVEN WITH THE SEED: the statements are not yours to turn. If you find one false, say at which input.
  Laid BY PROGRAM, IN A SANDBOX (cutbox-rows.mjs): the forced cells as the released guide's own fill.sh prints them over the translation d6a64236ce8e9a85… (all of the seat's roots in one cut). By AI agents, Wed Nov 11 2026. No macro, syntax, notation, axiom, sorry.
-/
import Derived.Test.YtgdgncdnhpflcaaChecked
import GoSem.Claim
import GoSem.ClaimJoined
import GoSem.ClaimMapViews
import Derived.JoinedTies
import Derived.KernelRfl
namespace Go.Proofs.Ytgdgncdnhpflcaa
/- THE CELL 'sum', in the pinned program and in every row, IS THE sha256 OF THE DUMP (.gsa) THAT YtgdgncdnhpflcaaProg.lean LOADS. Nothing in Lean hashes anything: it is a label: what it is worth is what the hold of that sum in a sandbox is worth. -/
noncomputable def Try.pinned : Pinned := { name := "ytgdgncdnhpflcaa", sum := "d6a64236ce8e9a85e2643ec28f2af82c372ed1e26b6c3040301101e0384226e5", checked := Try.checked }
namespace Rows
def none {H : Type} : Left H := { results := [], args := [] }

/-- 'serinettelaw21.StereoAgain': WHATEVER THE INPUT: true; the input reads as it did. -/
def stereoAgainSpec : ChangeSpec := { name := "stereoAgain", fn := fun _ => fun
  | [d1, d2, d3] => { results := [.lit (.bool true)], args := [d1, d2, d3] }
  | _ => none }
def stereoAgainRow : OpenClaim := { program := "ytgdgncdnhpflcaa", sum := "d6a64236ce8e9a85e2643ec28f2af82c372ed1e26b6c3040301101e0384226e5", func := "serinette/serinettelaw21.StereoAgain", spec := "stereoAgain", unfollowed := true, recurses := true, apart := false }
def StereoAgainSaid : Prop := stereoAgainRow.holds Try.pinned (OpenSpec.ofChange stereoAgainSpec)

/-- ITS FALSE NEIGHBOUR: 'it returns false'. Refute it at one input. -/
def stereoAgainWrong : ChangeSpec := { name := "stereoAgain", fn := fun _ => fun
  | [d1, d2, d3] => { results := [.lit (.bool false)], args := [d1, d2, d3] }
  | _ => none }
def StereoAgainWrongFalsely : Prop := stereoAgainRow.holds Try.pinned (OpenSpec.ofChange stereoAgainWrong)

/-- 'serinettelaw21.StereoSame': WHATEVER THE INPUT: true; the input reads as it did. -/
def stereoSameSpec : ChangeSpec := { name := "stereoSame", fn := fun _ => fun
  | [d] => { results := [.lit (.bool true)], args := [d] }
  | _ => none }
def stereoSameRow : OpenClaim := { program := "ytgdgncdnhpflcaa", sum := "d6a64236ce8e9a85e2643ec28f2af82c372ed1e26b6c3040301101e0384226e5", func := "serinette/serinettelaw21.StereoSame", spec := "stereoSame", unfollowed := true, recurses := true, apart := false }
def StereoSameSaid : Prop := stereoSameRow.holds Try.pinned (OpenSpec.ofChange stereoSameSpec)

/-- ITS FALSE NEIGHBOUR: 'it returns false'. Refute it at one input. -/
def stereoSameWrong : ChangeSpec := { name := "stereoSame", fn := fun _ => fun
  | [d] => { results := [.lit (.bool false)], args := [d] }
  | _ => none }
def StereoSameWrongFalsely : Prop := stereoSameRow.holds Try.pinned (OpenSpec.ofChange stereoSameWrong)

/-- 'serinettelaw03.NumberOrder': WHATEVER THE INPUT: true; the input reads as it did. -/
def numberOrderSpec : ChangeSpec := { name := "numberOrder", fn := fun _ => fun
  | [d1, d2] => { results := [.lit (.bool true)], args := [d1, d2] }
  | _ => none }
def numberOrderRow : OpenClaim := { program := "ytgdgncdnhpflcaa", sum := "d6a64236ce8e9a85e2643ec28f2af82c372ed1e26b6c3040301101e0384226e5", func := "serinette/serinettelaw03.NumberOrder", spec := "numberOrder", apart := false }
def NumberOrderSaid : Prop := numberOrderRow.holds Try.pinned (OpenSpec.ofChange numberOrderSpec)

/-- ITS FALSE NEIGHBOUR: 'it returns false'. Refute it at one input. -/
def numberOrderWrong : ChangeSpec := { name := "numberOrder", fn := fun _ => fun
  | [d1, d2] => { results := [.lit (.bool false)], args := [d1, d2] }
  | _ => none }
def NumberOrderWrongFalsely : Prop := numberOrderRow.holds Try.pinned (OpenSpec.ofChange numberOrderWrong)

/-- 'serinettelaw21.StereoBack': WHATEVER THE INPUT: true; the input reads as it did. -/
def stereoBackSpec : ChangeSpec := { name := "stereoBack", fn := fun _ => fun
  | [d1, d2, d3, d4] => { results := [.lit (.bool true)], args := [d1, d2, d3, d4] }
  | _ => none }
def stereoBackRow : OpenClaim := { program := "ytgdgncdnhpflcaa", sum := "d6a64236ce8e9a85e2643ec28f2af82c372ed1e26b6c3040301101e0384226e5", func := "serinette/serinettelaw21.StereoBack", spec := "stereoBack", unfollowed := true, recurses := true, apart := false }
def StereoBackSaid : Prop := stereoBackRow.holds Try.pinned (OpenSpec.ofChange stereoBackSpec)

/-- ITS FALSE NEIGHBOUR: 'it returns false'. Refute it at one input. -/
def stereoBackWrong : ChangeSpec := { name := "stereoBack", fn := fun _ => fun
  | [d1, d2, d3, d4] => { results := [.lit (.bool false)], args := [d1, d2, d3, d4] }
  | _ => none }
def StereoBackWrongFalsely : Prop := stereoBackRow.holds Try.pinned (OpenSpec.ofChange stereoBackWrong)

/-- 'serinettelaw24.BoundTells': WHATEVER THE INPUT: true; the input reads as it did. -/
def boundTellsSpec : ChangeSpec := { name := "boundTells", fn := fun _ => fun
  | [d1, d2, d3, d4, d5, d6] => { results := [.lit (.bool true)], args := [d1, d2, d3, d4, d5, d6] }
  | _ => none }
def boundTellsRow : OpenClaim := { program := "ytgdgncdnhpflcaa", sum := "d6a64236ce8e9a85e2643ec28f2af82c372ed1e26b6c3040301101e0384226e5", func := "serinette/serinettelaw24.BoundTells", spec := "boundTells", apart := false }
def BoundTellsSaid : Prop := boundTellsRow.holds Try.pinned (OpenSpec.ofChange boundTellsSpec)

/-- ITS FALSE NEIGHBOUR: 'it returns false'. Refute it at one input. -/
def boundTellsWrong : ChangeSpec := { name := "boundTells", fn := fun _ => fun
  | [d1, d2, d3, d4, d5, d6] => { results := [.lit (.bool false)], args := [d1, d2, d3, d4, d5, d6] }
  | _ => none }
def BoundTellsWrongFalsely : Prop := boundTellsRow.holds Try.pinned (OpenSpec.ofChange boundTellsWrong)

/-- 'serinettelaw24.BoundNumbers': WHATEVER THE INPUT: true; the input reads as it did. -/
def boundNumbersSpec : ChangeSpec := { name := "boundNumbers", fn := fun _ => fun
  | [d] => { results := [.lit (.bool true)], args := [d] }
  | _ => none }
def boundNumbersRow : OpenClaim := { program := "ytgdgncdnhpflcaa", sum := "d6a64236ce8e9a85e2643ec28f2af82c372ed1e26b6c3040301101e0384226e5", func := "serinette/serinettelaw24.BoundNumbers", spec := "boundNumbers", apart := false }
def BoundNumbersSaid : Prop := boundNumbersRow.holds Try.pinned (OpenSpec.ofChange boundNumbersSpec)

/-- ITS FALSE NEIGHBOUR: 'it returns false'. Refute it at one input. -/
def boundNumbersWrong : ChangeSpec := { name := "boundNumbers", fn := fun _ => fun
  | [d] => { results := [.lit (.bool false)], args := [d] }
  | _ => none }
def BoundNumbersWrongFalsely : Prop := boundNumbersRow.holds Try.pinned (OpenSpec.ofChange boundNumbersWrong)

/-- 'serinettelaw03.NumberTells': WHATEVER THE INPUT: true; the input reads as it did. -/
def numberTellsSpec : ChangeSpec := { name := "numberTells", fn := fun _ => fun
  | [d1, d2] => { results := [.lit (.bool true)], args := [d1, d2] }
  | _ => none }
def numberTellsRow : OpenClaim := { program := "ytgdgncdnhpflcaa", sum := "d6a64236ce8e9a85e2643ec28f2af82c372ed1e26b6c3040301101e0384226e5", func := "serinette/serinettelaw03.NumberTells", spec := "numberTells", apart := false }
def NumberTellsSaid : Prop := numberTellsRow.holds Try.pinned (OpenSpec.ofChange numberTellsSpec)

/-- ITS FALSE NEIGHBOUR: 'it returns false'. Refute it at one input. -/
def numberTellsWrong : ChangeSpec := { name := "numberTells", fn := fun _ => fun
  | [d1, d2] => { results := [.lit (.bool false)], args := [d1, d2] }
  | _ => none }
def NumberTellsWrongFalsely : Prop := numberTellsRow.holds Try.pinned (OpenSpec.ofChange numberTellsWrong)

/-- 'serinettelaw03.NumberBack': WHATEVER THE INPUT: true; the input reads as it did. -/
def numberBackSpec : ChangeSpec := { name := "numberBack", fn := fun _ => fun
  | [d1, d2, d3] => { results := [.lit (.bool true)], args := [d1, d2, d3] }
  | _ => none }
def numberBackRow : OpenClaim := { program := "ytgdgncdnhpflcaa", sum := "d6a64236ce8e9a85e2643ec28f2af82c372ed1e26b6c3040301101e0384226e5", func := "serinette/serinettelaw03.NumberBack", spec := "numberBack", apart := false }
def NumberBackSaid : Prop := numberBackRow.holds Try.pinned (OpenSpec.ofChange numberBackSpec)

/-- ITS FALSE NEIGHBOUR: 'it returns false'. Refute it at one input. -/
def numberBackWrong : ChangeSpec := { name := "numberBack", fn := fun _ => fun
  | [d1, d2, d3] => { results := [.lit (.bool false)], args := [d1, d2, d3] }
  | _ => none }
def NumberBackWrongFalsely : Prop := numberBackRow.holds Try.pinned (OpenSpec.ofChange numberBackWrong)

/-- 'serinettelaw03.NumberAgain': WHATEVER THE INPUT: true; the input reads as it did. -/
def numberAgainSpec : ChangeSpec := { name := "numberAgain", fn := fun _ => fun
  | [d] => { results := [.lit (.bool true)], args := [d] }
  | _ => none }
def numberAgainRow : OpenClaim := { program := "ytgdgncdnhpflcaa", sum := "d6a64236ce8e9a85e2643ec28f2af82c372ed1e26b6c3040301101e0384226e5", func := "serinette/serinettelaw03.NumberAgain", spec := "numberAgain", apart := false }
def NumberAgainSaid : Prop := numberAgainRow.holds Try.pinned (OpenSpec.ofChange numberAgainSpec)

/-- ITS FALSE NEIGHBOUR: 'it returns false'. Refute it at one input. -/
def numberAgainWrong : ChangeSpec := { name := "numberAgain", fn := fun _ => fun
  | [d] => { results := [.lit (.bool false)], args := [d] }
  | _ => none }
def NumberAgainWrongFalsely : Prop := numberAgainRow.holds Try.pinned (OpenSpec.ofChange numberAgainWrong)

/-- 'serinettelaw03.NumberRunes': WHATEVER THE INPUT: true; the input reads as it did. -/
def numberRunesSpec : ChangeSpec := { name := "numberRunes", fn := fun _ => fun
  | [d] => { results := [.lit (.bool true)], args := [d] }
  | _ => none }
def numberRunesRow : OpenClaim := { program := "ytgdgncdnhpflcaa", sum := "d6a64236ce8e9a85e2643ec28f2af82c372ed1e26b6c3040301101e0384226e5", func := "serinette/serinettelaw03.NumberRunes", spec := "numberRunes", apart := false }
def NumberRunesSaid : Prop := numberRunesRow.holds Try.pinned (OpenSpec.ofChange numberRunesSpec)

/-- ITS FALSE NEIGHBOUR: 'it returns false'. Refute it at one input. -/
def numberRunesWrong : ChangeSpec := { name := "numberRunes", fn := fun _ => fun
  | [d] => { results := [.lit (.bool false)], args := [d] }
  | _ => none }
def NumberRunesWrongFalsely : Prop := numberRunesRow.holds Try.pinned (OpenSpec.ofChange numberRunesWrong)

/-- 'serinettelaw03.NumberTakes': WHATEVER THE INPUT: true; the input reads as it did. -/
def numberTakesSpec : ChangeSpec := { name := "numberTakes", fn := fun _ => fun
  | [d] => { results := [.lit (.bool true)], args := [d] }
  | _ => none }
def numberTakesRow : OpenClaim := { program := "ytgdgncdnhpflcaa", sum := "d6a64236ce8e9a85e2643ec28f2af82c372ed1e26b6c3040301101e0384226e5", func := "serinette/serinettelaw03.NumberTakes", spec := "numberTakes", apart := false }
def NumberTakesSaid : Prop := numberTakesRow.holds Try.pinned (OpenSpec.ofChange numberTakesSpec)

/-- ITS FALSE NEIGHBOUR: 'it returns false'. Refute it at one input. -/
def numberTakesWrong : ChangeSpec := { name := "numberTakes", fn := fun _ => fun
  | [d] => { results := [.lit (.bool false)], args := [d] }
  | _ => none }
def NumberTakesWrongFalsely : Prop := numberTakesRow.holds Try.pinned (OpenSpec.ofChange numberTakesWrong)

/-- 'serinettelaw24.BoundMore': WHATEVER THE INPUT: true; the input reads as it did. -/
def boundMoreSpec : ChangeSpec := { name := "boundMore", fn := fun _ => fun
  | [d1, d2, d3, d4, d5] => { results := [.lit (.bool true)], args := [d1, d2, d3, d4, d5] }
  | _ => none }
def boundMoreRow : OpenClaim := { program := "ytgdgncdnhpflcaa", sum := "d6a64236ce8e9a85e2643ec28f2af82c372ed1e26b6c3040301101e0384226e5", func := "serinette/serinettelaw24.BoundMore", spec := "boundMore", apart := false }
def BoundMoreSaid : Prop := boundMoreRow.holds Try.pinned (OpenSpec.ofChange boundMoreSpec)

/-- ITS FALSE NEIGHBOUR: 'it returns false'. Refute it at one input. -/
def boundMoreWrong : ChangeSpec := { name := "boundMore", fn := fun _ => fun
  | [d1, d2, d3, d4, d5] => { results := [.lit (.bool false)], args := [d1, d2, d3, d4, d5] }
  | _ => none }
def BoundMoreWrongFalsely : Prop := boundMoreRow.holds Try.pinned (OpenSpec.ofChange boundMoreWrong)

/-- 'serinettelaw24.BoundFrames': WHATEVER THE INPUT: true; the input reads as it did. -/
def boundFramesSpec : ChangeSpec := { name := "boundFrames", fn := fun _ => fun
  | [d1, d2, d3, d4, d5, d6] => { results := [.lit (.bool true)], args := [d1, d2, d3, d4, d5, d6] }
  | _ => none }
def boundFramesRow : OpenClaim := { program := "ytgdgncdnhpflcaa", sum := "d6a64236ce8e9a85e2643ec28f2af82c372ed1e26b6c3040301101e0384226e5", func := "serinette/serinettelaw24.BoundFrames", spec := "boundFrames", apart := false }
def BoundFramesSaid : Prop := boundFramesRow.holds Try.pinned (OpenSpec.ofChange boundFramesSpec)

/-- ITS FALSE NEIGHBOUR: 'it returns false'. Refute it at one input. -/
def boundFramesWrong : ChangeSpec := { name := "boundFrames", fn := fun _ => fun
  | [d1, d2, d3, d4, d5, d6] => { results := [.lit (.bool false)], args := [d1, d2, d3, d4, d5, d6] }
  | _ => none }
def BoundFramesWrongFalsely : Prop := boundFramesRow.holds Try.pinned (OpenSpec.ofChange boundFramesWrong)

/- THE SECOND FORM. 'bulk': how many values and letters a reading holds, each counted each time it is reached (what is shared counts as often as it is met; a slice's spare places count too). A statement '..UptoSaid' is the law's where the arguments, and the package variables that the reading takes, are together of bulk at most 1048576: NARROWER than '..Said'. Prove '..Said' where nothing that the law and all that it calls make is longer than what came in: it says more and counts as full. Else prove '..UptoSaid'. A law counts once. -/
mutual
def uptoBulk {H : Type} : DataW H → Nat
  | .lit (.string bytes) => bytes.length + 1
  | .lit _ => 1
  | .nil => 1
  | .ptr d => uptoBulk d + 1
  | .slice elems spare => uptoBulkAll elems + uptoBulkAll spare + 1
  | .agg parts => uptoBulkAll parts + 1
  | .iface _ d => uptoBulk d + 1
  | .map entries => uptoBulkEntries entries + 1
  | .held _ => 1
def uptoBulkAll {H : Type} : List (DataW H) → Nat
  | [] => 0
  | d :: r => uptoBulk d + uptoBulkAll r
def uptoBulkEntries {H : Type} : List (Lit × DataW H) → Nat
  | [] => 0
  | x :: r => uptoBulkEntry x + uptoBulkEntries r
def uptoBulkEntry {H : Type} : Lit × DataW H → Nat
  | (.string bytes, d) => bytes.length + uptoBulk d + 1
  | (_, d) => uptoBulk d + 1
 end
def uptoSmall : (H : Type) → List (DataW H) → Bool := fun _ ds => decide (uptoBulkAll ds ≤ 1048576)
def OpenSpec.upto (s : _root_.Go.ChangeSpec) : _root_.Go.OpenSpec := { _root_.Go.OpenSpec.ofChange s with cond := some uptoSmall }

/-- 'serinettelaw21.StereoAgain', WHERE WHAT IT READS IS OF BULK AT MOST 1048576: true; the input reads as it did. -/
def stereoAgainUptoRow : OpenClaim := { program := "ytgdgncdnhpflcaa", sum := "d6a64236ce8e9a85e2643ec28f2af82c372ed1e26b6c3040301101e0384226e5", func := "serinette/serinettelaw21.StereoAgain", spec := "stereoAgain", unfollowed := true, recurses := true, apart := false, narrowed := true }
def StereoAgainUptoSaid : Prop := stereoAgainUptoRow.holds Try.pinned (OpenSpec.upto stereoAgainSpec)

/-- 'serinettelaw21.StereoSame', WHERE WHAT IT READS IS OF BULK AT MOST 1048576: true; the input reads as it did. -/
def stereoSameUptoRow : OpenClaim := { program := "ytgdgncdnhpflcaa", sum := "d6a64236ce8e9a85e2643ec28f2af82c372ed1e26b6c3040301101e0384226e5", func := "serinette/serinettelaw21.StereoSame", spec := "stereoSame", unfollowed := true, recurses := true, apart := false, narrowed := true }
def StereoSameUptoSaid : Prop := stereoSameUptoRow.holds Try.pinned (OpenSpec.upto stereoSameSpec)

/-- 'serinettelaw03.NumberOrder', WHERE WHAT IT READS IS OF BULK AT MOST 1048576: true; the input reads as it did. -/
def numberOrderUptoRow : OpenClaim := { program := "ytgdgncdnhpflcaa", sum := "d6a64236ce8e9a85e2643ec28f2af82c372ed1e26b6c3040301101e0384226e5", func := "serinette/serinettelaw03.NumberOrder", spec := "numberOrder", apart := false, narrowed := true }
def NumberOrderUptoSaid : Prop := numberOrderUptoRow.holds Try.pinned (OpenSpec.upto numberOrderSpec)

/-- 'serinettelaw21.StereoBack', WHERE WHAT IT READS IS OF BULK AT MOST 1048576: true; the input reads as it did. -/
def stereoBackUptoRow : OpenClaim := { program := "ytgdgncdnhpflcaa", sum := "d6a64236ce8e9a85e2643ec28f2af82c372ed1e26b6c3040301101e0384226e5", func := "serinette/serinettelaw21.StereoBack", spec := "stereoBack", unfollowed := true, recurses := true, apart := false, narrowed := true }
def StereoBackUptoSaid : Prop := stereoBackUptoRow.holds Try.pinned (OpenSpec.upto stereoBackSpec)

/-- 'serinettelaw24.BoundTells', WHERE WHAT IT READS IS OF BULK AT MOST 1048576: true; the input reads as it did. -/
def boundTellsUptoRow : OpenClaim := { program := "ytgdgncdnhpflcaa", sum := "d6a64236ce8e9a85e2643ec28f2af82c372ed1e26b6c3040301101e0384226e5", func := "serinette/serinettelaw24.BoundTells", spec := "boundTells", apart := false, narrowed := true }
def BoundTellsUptoSaid : Prop := boundTellsUptoRow.holds Try.pinned (OpenSpec.upto boundTellsSpec)

/-- 'serinettelaw24.BoundNumbers', WHERE WHAT IT READS IS OF BULK AT MOST 1048576: true; the input reads as it did. -/
def boundNumbersUptoRow : OpenClaim := { program := "ytgdgncdnhpflcaa", sum := "d6a64236ce8e9a85e2643ec28f2af82c372ed1e26b6c3040301101e0384226e5", func := "serinette/serinettelaw24.BoundNumbers", spec := "boundNumbers", apart := false, narrowed := true }
def BoundNumbersUptoSaid : Prop := boundNumbersUptoRow.holds Try.pinned (OpenSpec.upto boundNumbersSpec)

/-- 'serinettelaw03.NumberTells', WHERE WHAT IT READS IS OF BULK AT MOST 1048576: true; the input reads as it did. -/
def numberTellsUptoRow : OpenClaim := { program := "ytgdgncdnhpflcaa", sum := "d6a64236ce8e9a85e2643ec28f2af82c372ed1e26b6c3040301101e0384226e5", func := "serinette/serinettelaw03.NumberTells", spec := "numberTells", apart := false, narrowed := true }
def NumberTellsUptoSaid : Prop := numberTellsUptoRow.holds Try.pinned (OpenSpec.upto numberTellsSpec)

/-- 'serinettelaw03.NumberBack', WHERE WHAT IT READS IS OF BULK AT MOST 1048576: true; the input reads as it did. -/
def numberBackUptoRow : OpenClaim := { program := "ytgdgncdnhpflcaa", sum := "d6a64236ce8e9a85e2643ec28f2af82c372ed1e26b6c3040301101e0384226e5", func := "serinette/serinettelaw03.NumberBack", spec := "numberBack", apart := false, narrowed := true }
def NumberBackUptoSaid : Prop := numberBackUptoRow.holds Try.pinned (OpenSpec.upto numberBackSpec)

/-- 'serinettelaw03.NumberAgain', WHERE WHAT IT READS IS OF BULK AT MOST 1048576: true; the input reads as it did. -/
def numberAgainUptoRow : OpenClaim := { program := "ytgdgncdnhpflcaa", sum := "d6a64236ce8e9a85e2643ec28f2af82c372ed1e26b6c3040301101e0384226e5", func := "serinette/serinettelaw03.NumberAgain", spec := "numberAgain", apart := false, narrowed := true }
def NumberAgainUptoSaid : Prop := numberAgainUptoRow.holds Try.pinned (OpenSpec.upto numberAgainSpec)

/-- 'serinettelaw03.NumberRunes', WHERE WHAT IT READS IS OF BULK AT MOST 1048576: true; the input reads as it did. -/
def numberRunesUptoRow : OpenClaim := { program := "ytgdgncdnhpflcaa", sum := "d6a64236ce8e9a85e2643ec28f2af82c372ed1e26b6c3040301101e0384226e5", func := "serinette/serinettelaw03.NumberRunes", spec := "numberRunes", apart := false, narrowed := true }
def NumberRunesUptoSaid : Prop := numberRunesUptoRow.holds Try.pinned (OpenSpec.upto numberRunesSpec)

/-- 'serinettelaw03.NumberTakes', WHERE WHAT IT READS IS OF BULK AT MOST 1048576: true; the input reads as it did. -/
def numberTakesUptoRow : OpenClaim := { program := "ytgdgncdnhpflcaa", sum := "d6a64236ce8e9a85e2643ec28f2af82c372ed1e26b6c3040301101e0384226e5", func := "serinette/serinettelaw03.NumberTakes", spec := "numberTakes", apart := false, narrowed := true }
def NumberTakesUptoSaid : Prop := numberTakesUptoRow.holds Try.pinned (OpenSpec.upto numberTakesSpec)

/-- 'serinettelaw24.BoundMore', WHERE WHAT IT READS IS OF BULK AT MOST 1048576: true; the input reads as it did. -/
def boundMoreUptoRow : OpenClaim := { program := "ytgdgncdnhpflcaa", sum := "d6a64236ce8e9a85e2643ec28f2af82c372ed1e26b6c3040301101e0384226e5", func := "serinette/serinettelaw24.BoundMore", spec := "boundMore", apart := false, narrowed := true }
def BoundMoreUptoSaid : Prop := boundMoreUptoRow.holds Try.pinned (OpenSpec.upto boundMoreSpec)

/-- 'serinettelaw24.BoundFrames', WHERE WHAT IT READS IS OF BULK AT MOST 1048576: true; the input reads as it did. -/
def boundFramesUptoRow : OpenClaim := { program := "ytgdgncdnhpflcaa", sum := "d6a64236ce8e9a85e2643ec28f2af82c372ed1e26b6c3040301101e0384226e5", func := "serinette/serinettelaw24.BoundFrames", spec := "boundFrames", apart := false, narrowed := true }
def BoundFramesUptoSaid : Prop := boundFramesUptoRow.holds Try.pinned (OpenSpec.upto boundFramesSpec)

end Rows
end Go.Proofs.Ytgdgncdnhpflcaa
