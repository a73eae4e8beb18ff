/-
  No cell of these rows narrows 'for every input' (looked for: loops, veiled, ifaces, maps, wideKeys, modest, calm, conditions, laid).
  DERIVED. THE GIVEN ROWS OF THIS SEAT. 7 by the template 'for every input the law returns true; each argument reads behind the call as it read before'; 0 by the template 'total and deterministic' (their statements: YtbohlcccdcilkaaTotals.lean).
  GIVEN WITH THE SEED: the statements are not yours to turn. If you find one false, say at which input.
  Laid BY PROGRAM, IN A SANDBOX (cutbox-rows.mjs): the forced cells as the released guide's own fill.sh prints them over the translation fc0520796347a654… (all of the seat's roots in one cut). By AI agents, Wed Nov 11 2026. No macro, syntax, notation, axiom, sorry.
-/
import Derived.Test.YtbohlcccdcilkaaChecked
import GoSem.Claim
import GoSem.ClaimJoined
import GoSem.ClaimMapViews
import Derived.JoinedTies
import Derived.KernelRfl
namespace Go.Proofs.Ytbohlcccdcilkaa
/- THE CELL 'sum', in the pinned program and in every row, IS THE sha256 OF THE DUMP (.gsa) THAT YtbohlcccdcilkaaProg.lean LOADS. Nothing in Lean hashes anything: it is a label: what it is worth is what the hold of that sum in a sandbox is worth. -/
noncomputable def Try.pinned : Pinned := { name := "ytbohlcccdcilkaa", sum := "fc0520796347a654051b9e91c1fcb06438fc1cbd94022b7211046462af58602b", checked := Try.checked }
namespace Rows
def none {H : Type} : Left H := { results := [], args := [] }

/-- 'serinettelaw17.HeadPuts': WHATEVER THE INPUT: true; the input reads as it did. -/
def headPutsSpec : ChangeSpec := { name := "headPuts", fn := fun _ => fun
  | [d1, d2] => { results := [.lit (.bool true)], args := [d1, d2] }
  | _ => none }
def headPutsRow : OpenClaim := { program := "ytbohlcccdcilkaa", sum := "fc0520796347a654051b9e91c1fcb06438fc1cbd94022b7211046462af58602b", func := "serinette/serinettelaw17.HeadPuts", spec := "headPuts", unfollowed := true, recurses := true, apart := false }
def HeadPutsSaid : Prop := headPutsRow.holds Try.pinned (OpenSpec.ofChange headPutsSpec)

/-- ITS FALSE NEIGHBOUR: 'it returns false'. Refute it at one input. -/
def headPutsWrong : ChangeSpec := { name := "headPuts", fn := fun _ => fun
  | [d1, d2] => { results := [.lit (.bool false)], args := [d1, d2] }
  | _ => none }
def HeadPutsWrongFalsely : Prop := headPutsRow.holds Try.pinned (OpenSpec.ofChange headPutsWrong)

/-- 'serinettelaw17.HeadNumbers': WHATEVER THE INPUT: true; the input reads as it did. -/
def headNumbersSpec : ChangeSpec := { name := "headNumbers", fn := fun _ => fun
  | [d1, d2] => { results := [.lit (.bool true)], args := [d1, d2] }
  | _ => none }
def headNumbersRow : OpenClaim := { program := "ytbohlcccdcilkaa", sum := "fc0520796347a654051b9e91c1fcb06438fc1cbd94022b7211046462af58602b", func := "serinette/serinettelaw17.HeadNumbers", spec := "headNumbers", unfollowed := true, recurses := true, apart := false }
def HeadNumbersSaid : Prop := headNumbersRow.holds Try.pinned (OpenSpec.ofChange headNumbersSpec)

/-- ITS FALSE NEIGHBOUR: 'it returns false'. Refute it at one input. -/
def headNumbersWrong : ChangeSpec := { name := "headNumbers", fn := fun _ => fun
  | [d1, d2] => { results := [.lit (.bool false)], args := [d1, d2] }
  | _ => none }
def HeadNumbersWrongFalsely : Prop := headNumbersRow.holds Try.pinned (OpenSpec.ofChange headNumbersWrong)

/-- 'serinettelaw17.HeadPlaces': WHATEVER THE INPUT: true; the input reads as it did. -/
def headPlacesSpec : ChangeSpec := { name := "headPlaces", fn := fun _ => fun
  | [d1, d2] => { results := [.lit (.bool true)], args := [d1, d2] }
  | _ => none }
def headPlacesRow : OpenClaim := { program := "ytbohlcccdcilkaa", sum := "fc0520796347a654051b9e91c1fcb06438fc1cbd94022b7211046462af58602b", func := "serinette/serinettelaw17.HeadPlaces", spec := "headPlaces", unfollowed := true, recurses := true, apart := false }
def HeadPlacesSaid : Prop := headPlacesRow.holds Try.pinned (OpenSpec.ofChange headPlacesSpec)

/-- ITS FALSE NEIGHBOUR: 'it returns false'. Refute it at one input. -/
def headPlacesWrong : ChangeSpec := { name := "headPlaces", fn := fun _ => fun
  | [d1, d2] => { results := [.lit (.bool false)], args := [d1, d2] }
  | _ => none }
def HeadPlacesWrongFalsely : Prop := headPlacesRow.holds Try.pinned (OpenSpec.ofChange headPlacesWrong)

/-- 'serinettelaw17.HeadTakes': WHATEVER THE INPUT: true; the input reads as it did. -/
def headTakesSpec : ChangeSpec := { name := "headTakes", fn := fun _ => fun
  | [d] => { results := [.lit (.bool true)], args := [d] }
  | _ => none }
def headTakesRow : OpenClaim := { program := "ytbohlcccdcilkaa", sum := "fc0520796347a654051b9e91c1fcb06438fc1cbd94022b7211046462af58602b", func := "serinette/serinettelaw17.HeadTakes", spec := "headTakes", unfollowed := true, recurses := true, apart := false }
def HeadTakesSaid : Prop := headTakesRow.holds Try.pinned (OpenSpec.ofChange headTakesSpec)

/-- ITS FALSE NEIGHBOUR: 'it returns false'. Refute it at one input. -/
def headTakesWrong : ChangeSpec := { name := "headTakes", fn := fun _ => fun
  | [d] => { results := [.lit (.bool false)], args := [d] }
  | _ => none }
def HeadTakesWrongFalsely : Prop := headTakesRow.holds Try.pinned (OpenSpec.ofChange headTakesWrong)

/-- 'serinettelaw17.HeadBack': WHATEVER THE INPUT: true; the input reads as it did. -/
def headBackSpec : ChangeSpec := { name := "headBack", fn := fun _ => fun
  | [d1, d2] => { results := [.lit (.bool true)], args := [d1, d2] }
  | _ => none }
def headBackRow : OpenClaim := { program := "ytbohlcccdcilkaa", sum := "fc0520796347a654051b9e91c1fcb06438fc1cbd94022b7211046462af58602b", func := "serinette/serinettelaw17.HeadBack", spec := "headBack", unfollowed := true, recurses := true, apart := false }
def HeadBackSaid : Prop := headBackRow.holds Try.pinned (OpenSpec.ofChange headBackSpec)

/-- ITS FALSE NEIGHBOUR: 'it returns false'. Refute it at one input. -/
def headBackWrong : ChangeSpec := { name := "headBack", fn := fun _ => fun
  | [d1, d2] => { results := [.lit (.bool false)], args := [d1, d2] }
  | _ => none }
def HeadBackWrongFalsely : Prop := headBackRow.holds Try.pinned (OpenSpec.ofChange headBackWrong)

/-- 'serinettelaw17.HeadCuts': WHATEVER THE INPUT: true; the input reads as it did. -/
def headCutsSpec : ChangeSpec := { name := "headCuts", fn := fun _ => fun
  | [d1, d2, d3, d4] => { results := [.lit (.bool true)], args := [d1, d2, d3, d4] }
  | _ => none }
def headCutsRow : OpenClaim := { program := "ytbohlcccdcilkaa", sum := "fc0520796347a654051b9e91c1fcb06438fc1cbd94022b7211046462af58602b", func := "serinette/serinettelaw17.HeadCuts", spec := "headCuts", unfollowed := true, recurses := true, apart := false }
def HeadCutsSaid : Prop := headCutsRow.holds Try.pinned (OpenSpec.ofChange headCutsSpec)

/-- ITS FALSE NEIGHBOUR: 'it returns false'. Refute it at one input. -/
def headCutsWrong : ChangeSpec := { name := "headCuts", fn := fun _ => fun
  | [d1, d2, d3, d4] => { results := [.lit (.bool false)], args := [d1, d2, d3, d4] }
  | _ => none }
def HeadCutsWrongFalsely : Prop := headCutsRow.holds Try.pinned (OpenSpec.ofChange headCutsWrong)

/-- 'serinettelaw17.HeadTwice': WHATEVER THE INPUT: true; the input reads as it did. -/
def headTwiceSpec : ChangeSpec := { name := "headTwice", fn := fun _ => fun
  | [d] => { results := [.lit (.bool true)], args := [d] }
  | _ => none }
def headTwiceRow : OpenClaim := { program := "ytbohlcccdcilkaa", sum := "fc0520796347a654051b9e91c1fcb06438fc1cbd94022b7211046462af58602b", func := "serinette/serinettelaw17.HeadTwice", spec := "headTwice", unfollowed := true, recurses := true, apart := false }
def HeadTwiceSaid : Prop := headTwiceRow.holds Try.pinned (OpenSpec.ofChange headTwiceSpec)

/-- ITS FALSE NEIGHBOUR: 'it returns false'. Refute it at one input. -/
def headTwiceWrong : ChangeSpec := { name := "headTwice", fn := fun _ => fun
  | [d] => { results := [.lit (.bool false)], args := [d] }
  | _ => none }
def HeadTwiceWrongFalsely : Prop := headTwiceRow.holds Try.pinned (OpenSpec.ofChange headTwiceWrong)

/- THE SECOND FORM. 'bulk': how many values and letters a reading holds, each counted each time it is reached (what is shared counts as often as it is met; a slice's spare places count too). A statement '..UptoSaid' is the law's where the arguments, and the package variables that the reading takes, are together of bulk at most 1048576: NARROWER than '..Said'. Prove '..Said' where nothing that the law and all that it calls make is longer than what came in: it says more and counts as full. Else prove '..UptoSaid'. A law counts once. -/
mutual
def uptoBulk {H : Type} : DataW H → Nat
  | .lit (.string bytes) => bytes.length + 1
  | .lit _ => 1
  | .nil => 1
  | .ptr d => uptoBulk d + 1
  | .slice elems spare => uptoBulkAll elems + uptoBulkAll spare + 1
  | .agg parts => uptoBulkAll parts + 1
  | .iface _ d => uptoBulk d + 1
  | .map entries => uptoBulkEntries entries + 1
  | .held _ => 1
def uptoBulkAll {H : Type} : List (DataW H) → Nat
  | [] => 0
  | d :: r => uptoBulk d + uptoBulkAll r
def uptoBulkEntries {H : Type} : List (Lit × DataW H) → Nat
  | [] => 0
  | x :: r => uptoBulkEntry x + uptoBulkEntries r
def uptoBulkEntry {H : Type} : Lit × DataW H → Nat
  | (.string bytes, d) => bytes.length + uptoBulk d + 1
  | (_, d) => uptoBulk d + 1
 end
def uptoSmall : (H : Type) → List (DataW H) → Bool := fun _ ds => decide (uptoBulkAll ds ≤ 1048576)
def OpenSpec.upto (s : _root_.Go.ChangeSpec) : _root_.Go.OpenSpec := { _root_.Go.OpenSpec.ofChange s with cond := some uptoSmall }

/-- 'serinettelaw17.HeadPuts', WHERE WHAT IT READS IS OF BULK AT MOST 1048576: true; the input reads as it did. -/
def headPutsUptoRow : OpenClaim := { program := "ytbohlcccdcilkaa", sum := "fc0520796347a654051b9e91c1fcb06438fc1cbd94022b7211046462af58602b", func := "serinette/serinettelaw17.HeadPuts", spec := "headPuts", unfollowed := true, recurses := true, apart := false, narrowed := true }
def HeadPutsUptoSaid : Prop := headPutsUptoRow.holds Try.pinned (OpenSpec.upto headPutsSpec)

/-- 'serinettelaw17.HeadNumbers', WHERE WHAT IT READS IS OF BULK AT MOST 1048576: true; the input reads as it did. -/
def headNumbersUptoRow : OpenClaim := { program := "ytbohlcccdcilkaa", sum := "fc0520796347a654051b9e91c1fcb06438fc1cbd94022b7211046462af58602b", func := "serinette/serinettelaw17.HeadNumbers", spec := "headNumbers", unfollowed := true, recurses := true, apart := false, narrowed := true }
def HeadNumbersUptoSaid : Prop := headNumbersUptoRow.holds Try.pinned (OpenSpec.upto headNumbersSpec)

/-- 'serinettelaw17.HeadPlaces', WHERE WHAT IT READS IS OF BULK AT MOST 1048576: true; the input reads as it did. -/
def headPlacesUptoRow : OpenClaim := { program := "ytbohlcccdcilkaa", sum := "fc0520796347a654051b9e91c1fcb06438fc1cbd94022b7211046462af58602b", func := "serinette/serinettelaw17.HeadPlaces", spec := "headPlaces", unfollowed := true, recurses := true, apart := false, narrowed := true }
def HeadPlacesUptoSaid : Prop := headPlacesUptoRow.holds Try.pinned (OpenSpec.upto headPlacesSpec)

/-- 'serinettelaw17.HeadTakes', WHERE WHAT IT READS IS OF BULK AT MOST 1048576: true; the input reads as it did. -/
def headTakesUptoRow : OpenClaim := { program := "ytbohlcccdcilkaa", sum := "fc0520796347a654051b9e91c1fcb06438fc1cbd94022b7211046462af58602b", func := "serinette/serinettelaw17.HeadTakes", spec := "headTakes", unfollowed := true, recurses := true, apart := false, narrowed := true }
def HeadTakesUptoSaid : Prop := headTakesUptoRow.holds Try.pinned (OpenSpec.upto headTakesSpec)

/-- 'serinettelaw17.HeadBack', WHERE WHAT IT READS IS OF BULK AT MOST 1048576: true; the input reads as it did. -/
def headBackUptoRow : OpenClaim := { program := "ytbohlcccdcilkaa", sum := "fc0520796347a654051b9e91c1fcb06438fc1cbd94022b7211046462af58602b", func := "serinette/serinettelaw17.HeadBack", spec := "headBack", unfollowed := true, recurses := true, apart := false, narrowed := true }
def HeadBackUptoSaid : Prop := headBackUptoRow.holds Try.pinned (OpenSpec.upto headBackSpec)

/-- 'serinettelaw17.HeadCuts', WHERE WHAT IT READS IS OF BULK AT MOST 1048576: true; the input reads as it did. -/
def headCutsUptoRow : OpenClaim := { program := "ytbohlcccdcilkaa", sum := "fc0520796347a654051b9e91c1fcb06438fc1cbd94022b7211046462af58602b", func := "serinette/serinettelaw17.HeadCuts", spec := "headCuts", unfollowed := true, recurses := true, apart := false, narrowed := true }
def HeadCutsUptoSaid : Prop := headCutsUptoRow.holds Try.pinned (OpenSpec.upto headCutsSpec)

/-- 'serinettelaw17.HeadTwice', WHERE WHAT IT READS IS OF BULK AT MOST 1048576: true; the input reads as it did. -/
def headTwiceUptoRow : OpenClaim := { program := "ytbohlcccdcilkaa", sum := "fc0520796347a654051b9e91c1fcb06438fc1cbd94022b7211046462af58602b", func := "serinette/serinettelaw17.HeadTwice", spec := "headTwice", unfollowed := true, recurses := true, apart := false, narrowed := true }
def HeadTwiceUptoSaid : Prop := headTwiceUptoRow.holds Try.pinned (OpenSpec.upto headTwiceSpec)

end Rows
end Go.Proofs.Ytbohlcccdcilkaa
