/-
  NARROWER THAN 'FOR EVERY INPUT', by the rows' own cells (each row's printed sentence says how): PresetTells: laid · PresetMore: laid · PresetChoices: laid · PresetOnce: laid · PresetNine: laid.
  DERIVED. THE GIVEN ROWS OF THIS SEAT. 5 by the template 'for every input the law returns true; each argument reads behind the call as it read before'; 0 by the template 'total and deterministic' (their statements: YtgdgncdnhpflcaaDoorTotals.lean).
  GIVEN WITH THE SEED: the statements are not yours to turn. If you find one false, say at which input.
  Laid BY PROGRAM, IN A SANDBOX (cutbox-rows.mjs): the forced cells as the released guide's own fill.sh prints them over the translation cd76ef67f53b64f8… (all of the seat's roots in one cut). By AI agents, Wed Nov 11 2026. No macro, syntax, notation, axiom, sorry.
-/
import Derived.Test.YtgdgncdnhpflcaaDoorChecked
import GoSem.Claim
import GoSem.ClaimJoined
import GoSem.ClaimMapViews
import Derived.JoinedTies
import Derived.KernelRfl
namespace Go.Proofs.YtgdgncdnhpflcaaDoor
/- THE CELL 'sum', in the pinned program and in every row, IS THE sha256 OF THE DUMP (.gsa) THAT YtgdgncdnhpflcaaDoorProg.lean LOADS. Nothing in Lean hashes anything: it is a label: what it is worth is what the hold of that sum in a sandbox is worth. -/
noncomputable def Tryd.pinned : Pinned := { name := "ytgdgncdnhpflcaadoor", sum := "cd76ef67f53b64f892a6e2c5e0d3ff9bf285328d39fd747e3cb50fb40587dcd8", checked := Tryd.checked }
namespace Rows
def none {H : Type} : Left H := { results := [], args := [] }

/- WHAT THE LISTED PACKAGE-LEVEL VARIABLES READ AS WHEN THE CALL BEGINS. Each datum BY PROGRAM (the guide's laid-datum.mjs) off the statement by which the dump's own 'gosem.cut.vars' lays the variable. In a bare row this is a premise. The card (YtgdgncdnhpflcaaDoorCards.lean) ties it to the program's text. -/
def laid_serinette_preset_table {H : Type} : DataW H := .agg [.agg [.lit (.int .i64 1152), .lit (.bool false), .lit (.int .i64 2), .lit (.int .i64 0), .lit (.int .i64 3), .lit (.bool false), .lit (.int .i64 0), .lit (.int .i64 0)], .agg [.lit (.int .i64 1152), .lit (.bool true), .lit (.int .i64 2), .lit (.int .i64 0), .lit (.int .i64 3), .lit (.bool false), .lit (.int .i64 0), .lit (.int .i64 0)], .agg [.lit (.int .i64 1152), .lit (.bool true), .lit (.int .i64 4), .lit (.int .i64 0), .lit (.int .i64 3), .lit (.bool false), .lit (.int .i64 0), .lit (.int .i64 0)], .agg [.lit (.int .i64 4096), .lit (.bool false), .lit (.int .i64 4), .lit (.int .i64 6), .lit (.int .i64 4), .lit (.bool false), .lit (.int .i64 1), .lit (.int .i64 1)], .agg [.lit (.int .i64 4096), .lit (.bool true), .lit (.int .i64 4), .lit (.int .i64 8), .lit (.int .i64 4), .lit (.bool false), .lit (.int .i64 1), .lit (.int .i64 1)], .agg [.lit (.int .i64 4096), .lit (.bool true), .lit (.int .i64 4), .lit (.int .i64 8), .lit (.int .i64 5), .lit (.bool false), .lit (.int .i64 1), .lit (.int .i64 1)], .agg [.lit (.int .i64 4096), .lit (.bool true), .lit (.int .i64 4), .lit (.int .i64 8), .lit (.int .i64 6), .lit (.bool false), .lit (.int .i64 2), .lit (.int .i64 2)], .agg [.lit (.int .i64 4096), .lit (.bool true), .lit (.int .i64 4), .lit (.int .i64 12), .lit (.int .i64 6), .lit (.bool true), .lit (.int .i64 2), .lit (.int .i64 2)], .agg [.lit (.int .i64 4096), .lit (.bool true), .lit (.int .i64 4), .lit (.int .i64 12), .lit (.int .i64 6), .lit (.bool true), .lit (.int .i64 3), .lit (.int .i64 3)]]

/-- 'serinettelaw19.PresetTells': WHATEVER THE INPUT: true; the input reads as it did. -/
def presetTellsSpec : ChangeSpec := { name := "presetTells", fn := fun _ => fun
  | [d1, d2] => { results := [.lit (.bool true)], args := [d1, d2] }
  | _ => none }
def presetTellsRow : OpenClaim := { program := "ytgdgncdnhpflcaadoor", sum := "cd76ef67f53b64f892a6e2c5e0d3ff9bf285328d39fd747e3cb50fb40587dcd8", func := "serinette/serinettelaw19.PresetTells", spec := "presetTells", named := ["serinette/preset.table"], apart := false, laid := [("serinette/preset.table", laid_serinette_preset_table)] }
def PresetTellsSaid : Prop := presetTellsRow.holds Tryd.pinned (OpenSpec.ofChange presetTellsSpec)

/-- ITS FALSE NEIGHBOUR: 'it returns false'. Refute it at one input. -/
def presetTellsWrong : ChangeSpec := { name := "presetTells", fn := fun _ => fun
  | [d1, d2] => { results := [.lit (.bool false)], args := [d1, d2] }
  | _ => none }
def PresetTellsWrongFalsely : Prop := presetTellsRow.holds Tryd.pinned (OpenSpec.ofChange presetTellsWrong)

/-- 'serinettelaw19.PresetMore': WHATEVER THE INPUT: true; the input reads as it did. -/
def presetMoreSpec : ChangeSpec := { name := "presetMore", fn := fun _ => fun
  | [d1, d2, d3] => { results := [.lit (.bool true)], args := [d1, d2, d3] }
  | _ => none }
def presetMoreRow : OpenClaim := { program := "ytgdgncdnhpflcaadoor", sum := "cd76ef67f53b64f892a6e2c5e0d3ff9bf285328d39fd747e3cb50fb40587dcd8", func := "serinette/serinettelaw19.PresetMore", spec := "presetMore", named := ["serinette/preset.table"], apart := false, laid := [("serinette/preset.table", laid_serinette_preset_table)] }
def PresetMoreSaid : Prop := presetMoreRow.holds Tryd.pinned (OpenSpec.ofChange presetMoreSpec)

/-- ITS FALSE NEIGHBOUR: 'it returns false'. Refute it at one input. -/
def presetMoreWrong : ChangeSpec := { name := "presetMore", fn := fun _ => fun
  | [d1, d2, d3] => { results := [.lit (.bool false)], args := [d1, d2, d3] }
  | _ => none }
def PresetMoreWrongFalsely : Prop := presetMoreRow.holds Tryd.pinned (OpenSpec.ofChange presetMoreWrong)

/-- 'serinettelaw19.PresetChoices': WHATEVER THE INPUT: true; the input reads as it did. -/
def presetChoicesSpec : ChangeSpec := { name := "presetChoices", fn := fun _ => fun
  | [d1, d2, d3, d4] => { results := [.lit (.bool true)], args := [d1, d2, d3, d4] }
  | _ => none }
def presetChoicesRow : OpenClaim := { program := "ytgdgncdnhpflcaadoor", sum := "cd76ef67f53b64f892a6e2c5e0d3ff9bf285328d39fd747e3cb50fb40587dcd8", func := "serinette/serinettelaw19.PresetChoices", spec := "presetChoices", named := ["serinette/preset.table"], apart := false, laid := [("serinette/preset.table", laid_serinette_preset_table)] }
def PresetChoicesSaid : Prop := presetChoicesRow.holds Tryd.pinned (OpenSpec.ofChange presetChoicesSpec)

/-- ITS FALSE NEIGHBOUR: 'it returns false'. Refute it at one input. -/
def presetChoicesWrong : ChangeSpec := { name := "presetChoices", fn := fun _ => fun
  | [d1, d2, d3, d4] => { results := [.lit (.bool false)], args := [d1, d2, d3, d4] }
  | _ => none }
def PresetChoicesWrongFalsely : Prop := presetChoicesRow.holds Tryd.pinned (OpenSpec.ofChange presetChoicesWrong)

/-- 'serinettelaw19.PresetOnce': WHATEVER THE INPUT: true; the input reads as it did. -/
def presetOnceSpec : ChangeSpec := { name := "presetOnce", fn := fun _ => fun
  | [d1, d2, d3, d4] => { results := [.lit (.bool true)], args := [d1, d2, d3, d4] }
  | _ => none }
def presetOnceRow : OpenClaim := { program := "ytgdgncdnhpflcaadoor", sum := "cd76ef67f53b64f892a6e2c5e0d3ff9bf285328d39fd747e3cb50fb40587dcd8", func := "serinette/serinettelaw19.PresetOnce", spec := "presetOnce", named := ["serinette/preset.table"], apart := false, laid := [("serinette/preset.table", laid_serinette_preset_table)] }
def PresetOnceSaid : Prop := presetOnceRow.holds Tryd.pinned (OpenSpec.ofChange presetOnceSpec)

/-- ITS FALSE NEIGHBOUR: 'it returns false'. Refute it at one input. -/
def presetOnceWrong : ChangeSpec := { name := "presetOnce", fn := fun _ => fun
  | [d1, d2, d3, d4] => { results := [.lit (.bool false)], args := [d1, d2, d3, d4] }
  | _ => none }
def PresetOnceWrongFalsely : Prop := presetOnceRow.holds Tryd.pinned (OpenSpec.ofChange presetOnceWrong)

/-- 'serinettelaw19.PresetNine': WHATEVER THE INPUT: true; the input reads as it did. -/
def presetNineSpec : ChangeSpec := { name := "presetNine", fn := fun _ => fun
  | [d1, d2] => { results := [.lit (.bool true)], args := [d1, d2] }
  | _ => none }
def presetNineRow : OpenClaim := { program := "ytgdgncdnhpflcaadoor", sum := "cd76ef67f53b64f892a6e2c5e0d3ff9bf285328d39fd747e3cb50fb40587dcd8", func := "serinette/serinettelaw19.PresetNine", spec := "presetNine", named := ["serinette/preset.table"], apart := false, laid := [("serinette/preset.table", laid_serinette_preset_table)] }
def PresetNineSaid : Prop := presetNineRow.holds Tryd.pinned (OpenSpec.ofChange presetNineSpec)

/-- ITS FALSE NEIGHBOUR: 'it returns false'. Refute it at one input. -/
def presetNineWrong : ChangeSpec := { name := "presetNine", fn := fun _ => fun
  | [d1, d2] => { results := [.lit (.bool false)], args := [d1, d2] }
  | _ => none }
def PresetNineWrongFalsely : Prop := presetNineRow.holds Tryd.pinned (OpenSpec.ofChange presetNineWrong)

/- THE SECOND FORM. 'bulk': how many values and letters a reading holds, each counted each time it is reached (what is shared counts as often as it is met; a slice's spare places count too). A statement '..UptoSaid' is the law's where the arguments, and the package variables that the reading takes, are together of bulk at most 1048576: NARROWER than '..Said'. Prove '..Said' where nothing that the law and all that it calls make is longer than what came in: it says more and counts as full. Else prove '..UptoSaid'. A law counts once. -/
mutual
def uptoBulk {H : Type} : DataW H → Nat
  | .lit (.string bytes) => bytes.length + 1
  | .lit _ => 1
  | .nil => 1
  | .ptr d => uptoBulk d + 1
  | .slice elems spare => uptoBulkAll elems + uptoBulkAll spare + 1
  | .agg parts => uptoBulkAll parts + 1
  | .iface _ d => uptoBulk d + 1
  | .map entries => uptoBulkEntries entries + 1
  | .held _ => 1
def uptoBulkAll {H : Type} : List (DataW H) → Nat
  | [] => 0
  | d :: r => uptoBulk d + uptoBulkAll r
def uptoBulkEntries {H : Type} : List (Lit × DataW H) → Nat
  | [] => 0
  | x :: r => uptoBulkEntry x + uptoBulkEntries r
def uptoBulkEntry {H : Type} : Lit × DataW H → Nat
  | (.string bytes, d) => bytes.length + uptoBulk d + 1
  | (_, d) => uptoBulk d + 1
 end
def uptoSmall : (H : Type) → List (DataW H) → Bool := fun _ ds => decide (uptoBulkAll ds ≤ 1048576)
def OpenSpec.upto (s : _root_.Go.ChangeSpec) : _root_.Go.OpenSpec := { _root_.Go.OpenSpec.ofChange s with cond := some uptoSmall }

/-- 'serinettelaw19.PresetTells', WHERE WHAT IT READS IS OF BULK AT MOST 1048576: true; the input reads as it did. -/
def presetTellsUptoRow : OpenClaim := { program := "ytgdgncdnhpflcaadoor", sum := "cd76ef67f53b64f892a6e2c5e0d3ff9bf285328d39fd747e3cb50fb40587dcd8", func := "serinette/serinettelaw19.PresetTells", spec := "presetTells", named := ["serinette/preset.table"], apart := false, laid := [("serinette/preset.table", laid_serinette_preset_table)], narrowed := true }
def PresetTellsUptoSaid : Prop := presetTellsUptoRow.holds Tryd.pinned (OpenSpec.upto presetTellsSpec)

/-- 'serinettelaw19.PresetMore', WHERE WHAT IT READS IS OF BULK AT MOST 1048576: true; the input reads as it did. -/
def presetMoreUptoRow : OpenClaim := { program := "ytgdgncdnhpflcaadoor", sum := "cd76ef67f53b64f892a6e2c5e0d3ff9bf285328d39fd747e3cb50fb40587dcd8", func := "serinette/serinettelaw19.PresetMore", spec := "presetMore", named := ["serinette/preset.table"], apart := false, laid := [("serinette/preset.table", laid_serinette_preset_table)], narrowed := true }
def PresetMoreUptoSaid : Prop := presetMoreUptoRow.holds Tryd.pinned (OpenSpec.upto presetMoreSpec)

/-- 'serinettelaw19.PresetChoices', WHERE WHAT IT READS IS OF BULK AT MOST 1048576: true; the input reads as it did. -/
def presetChoicesUptoRow : OpenClaim := { program := "ytgdgncdnhpflcaadoor", sum := "cd76ef67f53b64f892a6e2c5e0d3ff9bf285328d39fd747e3cb50fb40587dcd8", func := "serinette/serinettelaw19.PresetChoices", spec := "presetChoices", named := ["serinette/preset.table"], apart := false, laid := [("serinette/preset.table", laid_serinette_preset_table)], narrowed := true }
def PresetChoicesUptoSaid : Prop := presetChoicesUptoRow.holds Tryd.pinned (OpenSpec.upto presetChoicesSpec)

/-- 'serinettelaw19.PresetOnce', WHERE WHAT IT READS IS OF BULK AT MOST 1048576: true; the input reads as it did. -/
def presetOnceUptoRow : OpenClaim := { program := "ytgdgncdnhpflcaadoor", sum := "cd76ef67f53b64f892a6e2c5e0d3ff9bf285328d39fd747e3cb50fb40587dcd8", func := "serinette/serinettelaw19.PresetOnce", spec := "presetOnce", named := ["serinette/preset.table"], apart := false, laid := [("serinette/preset.table", laid_serinette_preset_table)], narrowed := true }
def PresetOnceUptoSaid : Prop := presetOnceUptoRow.holds Tryd.pinned (OpenSpec.upto presetOnceSpec)

/-- 'serinettelaw19.PresetNine', WHERE WHAT IT READS IS OF BULK AT MOST 1048576: true; the input reads as it did. -/
def presetNineUptoRow : OpenClaim := { program := "ytgdgncdnhpflcaadoor", sum := "cd76ef67f53b64f892a6e2c5e0d3ff9bf285328d39fd747e3cb50fb40587dcd8", func := "serinette/serinettelaw19.PresetNine", spec := "presetNine", named := ["serinette/preset.table"], apart := false, laid := [("serinette/preset.table", laid_serinette_preset_table)], narrowed := true }
def PresetNineUptoSaid : Prop := presetNineUptoRow.holds Tryd.pinned (OpenSpec.upto presetNineSpec)

end Rows
end Go.Proofs.YtgdgncdnhpflcaaDoor
