/-
  No cell of these rows narrows 'for every input' (looked for: loops, veiled, ifaces, maps, wideKeys, modest, calm, conditions, laid).
  DERIVED. THE GIVEN ROWS OF THIS SEAT. 15 by the template 'for every input the law returns true; each argument reads behind the call as it read before'; 0 by the template 'total and deterministic' (their statements: YtdinbpfklikghaaTotals.lean).
  GIVEN WITH THE SEED: the statements are not yours to turn. If you find one false, say at which input.
  Laid BY PROGRAM, IN A SANDBOX (cutbox-rows.mjs): the forced cells as the released guide's own fill.sh prints them over the translation 21aa5a02dbaeadd1… (all of the seat's roots in one cut). By AI agents, Wed Nov 11 2026. No macro, syntax, notation, axiom, sorry.
-/
import Derived.Test.YtdinbpfklikghaaChecked
import GoSem.Claim
import GoSem.ClaimJoined
import GoSem.ClaimMapViews
import Derived.JoinedTies
import Derived.KernelRfl
namespace Go.Proofs.Ytdinbpfklikghaa
/- THE CELL 'sum', in the pinned program and in every row, IS THE sha256 OF THE DUMP (.gsa) THAT YtdinbpfklikghaaProg.lean LOADS. Nothing in Lean hashes anything: it is a label: what it is worth is what the hold of that sum in a sandbox is worth. -/
noncomputable def Try.pinned : Pinned := { name := "ytdinbpfklikghaa", sum := "21aa5a02dbaeadd157d516507b45a0bc590257da35c2d8a45cab2b0f71cdad6e", checked := Try.checked }
namespace Rows
def none {H : Type} : Left H := { results := [], args := [] }

/-- 'laws.FnExactLoopLength': WHATEVER THE INPUT: true; the input reads as it did. -/
def fnExactLoopLengthSpec : ChangeSpec := { name := "fnExactLoopLength", fn := fun _ => fun
  | [d] => { results := [.lit (.bool true)], args := [d] }
  | _ => none }
def fnExactLoopLengthRow : OpenClaim := { program := "ytdinbpfklikghaa", sum := "21aa5a02dbaeadd157d516507b45a0bc590257da35c2d8a45cab2b0f71cdad6e", func := "loop.example/gridpuzzles/laws.FnExactLoopLength", spec := "fnExactLoopLength", apart := false }
def FnExactLoopLengthSaid : Prop := fnExactLoopLengthRow.holds Try.pinned (OpenSpec.ofChange fnExactLoopLengthSpec)

/-- ITS FALSE NEIGHBOUR: 'it returns false'. Refute it at one input. -/
def fnExactLoopLengthWrong : ChangeSpec := { name := "fnExactLoopLength", fn := fun _ => fun
  | [d] => { results := [.lit (.bool false)], args := [d] }
  | _ => none }
def FnExactLoopLengthWrongFalsely : Prop := fnExactLoopLengthRow.holds Try.pinned (OpenSpec.ofChange fnExactLoopLengthWrong)

/-- 'laws.FnRegionConnected': WHATEVER THE INPUT: true; the input reads as it did. -/
def fnRegionConnectedSpec : ChangeSpec := { name := "fnRegionConnected", fn := fun _ => fun
  | [d] => { results := [.lit (.bool true)], args := [d] }
  | _ => none }
def fnRegionConnectedRow : OpenClaim := { program := "ytdinbpfklikghaa", sum := "21aa5a02dbaeadd157d516507b45a0bc590257da35c2d8a45cab2b0f71cdad6e", func := "loop.example/gridpuzzles/laws.FnRegionConnected", spec := "fnRegionConnected", apart := false }
def FnRegionConnectedSaid : Prop := fnRegionConnectedRow.holds Try.pinned (OpenSpec.ofChange fnRegionConnectedSpec)

/-- ITS FALSE NEIGHBOUR: 'it returns false'. Refute it at one input. -/
def fnRegionConnectedWrong : ChangeSpec := { name := "fnRegionConnected", fn := fun _ => fun
  | [d] => { results := [.lit (.bool false)], args := [d] }
  | _ => none }
def FnRegionConnectedWrongFalsely : Prop := fnRegionConnectedRow.holds Try.pinned (OpenSpec.ofChange fnRegionConnectedWrong)

/-- 'laws.FnExactLoopClues': WHATEVER THE INPUT: true; the input reads as it did. -/
def fnExactLoopCluesSpec : ChangeSpec := { name := "fnExactLoopClues", fn := fun _ => fun
  | [d] => { results := [.lit (.bool true)], args := [d] }
  | _ => none }
def fnExactLoopCluesRow : OpenClaim := { program := "ytdinbpfklikghaa", sum := "21aa5a02dbaeadd157d516507b45a0bc590257da35c2d8a45cab2b0f71cdad6e", func := "loop.example/gridpuzzles/laws.FnExactLoopClues", spec := "fnExactLoopClues", apart := false }
def FnExactLoopCluesSaid : Prop := fnExactLoopCluesRow.holds Try.pinned (OpenSpec.ofChange fnExactLoopCluesSpec)

/-- ITS FALSE NEIGHBOUR: 'it returns false'. Refute it at one input. -/
def fnExactLoopCluesWrong : ChangeSpec := { name := "fnExactLoopClues", fn := fun _ => fun
  | [d] => { results := [.lit (.bool false)], args := [d] }
  | _ => none }
def FnExactLoopCluesWrongFalsely : Prop := fnExactLoopCluesRow.holds Try.pinned (OpenSpec.ofChange fnExactLoopCluesWrong)

/-- 'laws.FnLoopClues': WHATEVER THE INPUT: true; the input reads as it did. -/
def fnLoopCluesSpec : ChangeSpec := { name := "fnLoopClues", fn := fun _ => fun
  | [d] => { results := [.lit (.bool true)], args := [d] }
  | _ => none }
def fnLoopCluesRow : OpenClaim := { program := "ytdinbpfklikghaa", sum := "21aa5a02dbaeadd157d516507b45a0bc590257da35c2d8a45cab2b0f71cdad6e", func := "loop.example/gridpuzzles/laws.FnLoopClues", spec := "fnLoopClues", apart := false }
def FnLoopCluesSaid : Prop := fnLoopCluesRow.holds Try.pinned (OpenSpec.ofChange fnLoopCluesSpec)

/-- ITS FALSE NEIGHBOUR: 'it returns false'. Refute it at one input. -/
def fnLoopCluesWrong : ChangeSpec := { name := "fnLoopClues", fn := fun _ => fun
  | [d] => { results := [.lit (.bool false)], args := [d] }
  | _ => none }
def FnLoopCluesWrongFalsely : Prop := fnLoopCluesRow.holds Try.pinned (OpenSpec.ofChange fnLoopCluesWrong)

/-- 'laws.FnLoopLength': WHATEVER THE INPUT: true; the input reads as it did. -/
def fnLoopLengthSpec : ChangeSpec := { name := "fnLoopLength", fn := fun _ => fun
  | [d] => { results := [.lit (.bool true)], args := [d] }
  | _ => none }
def fnLoopLengthRow : OpenClaim := { program := "ytdinbpfklikghaa", sum := "21aa5a02dbaeadd157d516507b45a0bc590257da35c2d8a45cab2b0f71cdad6e", func := "loop.example/gridpuzzles/laws.FnLoopLength", spec := "fnLoopLength", unfollowed := true, recurses := true, apart := false }
def FnLoopLengthSaid : Prop := fnLoopLengthRow.holds Try.pinned (OpenSpec.ofChange fnLoopLengthSpec)

/-- ITS FALSE NEIGHBOUR: 'it returns false'. Refute it at one input. -/
def fnLoopLengthWrong : ChangeSpec := { name := "fnLoopLength", fn := fun _ => fun
  | [d] => { results := [.lit (.bool false)], args := [d] }
  | _ => none }
def FnLoopLengthWrongFalsely : Prop := fnLoopLengthRow.holds Try.pinned (OpenSpec.ofChange fnLoopLengthWrong)

/-- 'laws.FnLoopAround': WHATEVER THE INPUT: true; the input reads as it did. -/
def fnLoopAroundSpec : ChangeSpec := { name := "fnLoopAround", fn := fun _ => fun
  | [d] => { results := [.lit (.bool true)], args := [d] }
  | _ => none }
def fnLoopAroundRow : OpenClaim := { program := "ytdinbpfklikghaa", sum := "21aa5a02dbaeadd157d516507b45a0bc590257da35c2d8a45cab2b0f71cdad6e", func := "loop.example/gridpuzzles/laws.FnLoopAround", spec := "fnLoopAround", unfollowed := true, recurses := true, apart := false }
def FnLoopAroundSaid : Prop := fnLoopAroundRow.holds Try.pinned (OpenSpec.ofChange fnLoopAroundSpec)

/-- ITS FALSE NEIGHBOUR: 'it returns false'. Refute it at one input. -/
def fnLoopAroundWrong : ChangeSpec := { name := "fnLoopAround", fn := fun _ => fun
  | [d] => { results := [.lit (.bool false)], args := [d] }
  | _ => none }
def FnLoopAroundWrongFalsely : Prop := fnLoopAroundRow.holds Try.pinned (OpenSpec.ofChange fnLoopAroundWrong)

/-- 'laws.FnExactLoopClosed': WHATEVER THE INPUT: true; the input reads as it did. -/
def fnExactLoopClosedSpec : ChangeSpec := { name := "fnExactLoopClosed", fn := fun _ => fun
  | [d] => { results := [.lit (.bool true)], args := [d] }
  | _ => none }
def fnExactLoopClosedRow : OpenClaim := { program := "ytdinbpfklikghaa", sum := "21aa5a02dbaeadd157d516507b45a0bc590257da35c2d8a45cab2b0f71cdad6e", func := "loop.example/gridpuzzles/laws.FnExactLoopClosed", spec := "fnExactLoopClosed", unfollowed := true, recurses := true, apart := false }
def FnExactLoopClosedSaid : Prop := fnExactLoopClosedRow.holds Try.pinned (OpenSpec.ofChange fnExactLoopClosedSpec)

/-- ITS FALSE NEIGHBOUR: 'it returns false'. Refute it at one input. -/
def fnExactLoopClosedWrong : ChangeSpec := { name := "fnExactLoopClosed", fn := fun _ => fun
  | [d] => { results := [.lit (.bool false)], args := [d] }
  | _ => none }
def FnExactLoopClosedWrongFalsely : Prop := fnExactLoopClosedRow.holds Try.pinned (OpenSpec.ofChange fnExactLoopClosedWrong)

/-- 'laws.FnExactApartRules': WHATEVER THE INPUT: true; the input reads as it did. -/
def fnExactApartRulesSpec : ChangeSpec := { name := "fnExactApartRules", fn := fun _ => fun
  | [d1, d2, d3] => { results := [.lit (.bool true)], args := [d1, d2, d3] }
  | _ => none }
def fnExactApartRulesRow : OpenClaim := { program := "ytdinbpfklikghaa", sum := "21aa5a02dbaeadd157d516507b45a0bc590257da35c2d8a45cab2b0f71cdad6e", func := "loop.example/gridpuzzles/laws.FnExactApartRules", spec := "fnExactApartRules", apart := false }
def FnExactApartRulesSaid : Prop := fnExactApartRulesRow.holds Try.pinned (OpenSpec.ofChange fnExactApartRulesSpec)

/-- ITS FALSE NEIGHBOUR: 'it returns false'. Refute it at one input. -/
def fnExactApartRulesWrong : ChangeSpec := { name := "fnExactApartRules", fn := fun _ => fun
  | [d1, d2, d3] => { results := [.lit (.bool false)], args := [d1, d2, d3] }
  | _ => none }
def FnExactApartRulesWrongFalsely : Prop := fnExactApartRulesRow.holds Try.pinned (OpenSpec.ofChange fnExactApartRulesWrong)

/-- 'laws.FnLoopCells': WHATEVER THE INPUT: true; the input reads as it did. -/
def fnLoopCellsSpec : ChangeSpec := { name := "fnLoopCells", fn := fun _ => fun
  | [d] => { results := [.lit (.bool true)], args := [d] }
  | _ => none }
def fnLoopCellsRow : OpenClaim := { program := "ytdinbpfklikghaa", sum := "21aa5a02dbaeadd157d516507b45a0bc590257da35c2d8a45cab2b0f71cdad6e", func := "loop.example/gridpuzzles/laws.FnLoopCells", spec := "fnLoopCells", unfollowed := true, recurses := true, apart := false }
def FnLoopCellsSaid : Prop := fnLoopCellsRow.holds Try.pinned (OpenSpec.ofChange fnLoopCellsSpec)

/-- ITS FALSE NEIGHBOUR: 'it returns false'. Refute it at one input. -/
def fnLoopCellsWrong : ChangeSpec := { name := "fnLoopCells", fn := fun _ => fun
  | [d] => { results := [.lit (.bool false)], args := [d] }
  | _ => none }
def FnLoopCellsWrongFalsely : Prop := fnLoopCellsRow.holds Try.pinned (OpenSpec.ofChange fnLoopCellsWrong)

/-- 'laws.FnExactLessRules': WHATEVER THE INPUT: true; the input reads as it did. -/
def fnExactLessRulesSpec : ChangeSpec := { name := "fnExactLessRules", fn := fun _ => fun
  | [d1, d2, d3] => { results := [.lit (.bool true)], args := [d1, d2, d3] }
  | _ => none }
def fnExactLessRulesRow : OpenClaim := { program := "ytdinbpfklikghaa", sum := "21aa5a02dbaeadd157d516507b45a0bc590257da35c2d8a45cab2b0f71cdad6e", func := "loop.example/gridpuzzles/laws.FnExactLessRules", spec := "fnExactLessRules", apart := false }
def FnExactLessRulesSaid : Prop := fnExactLessRulesRow.holds Try.pinned (OpenSpec.ofChange fnExactLessRulesSpec)

/-- ITS FALSE NEIGHBOUR: 'it returns false'. Refute it at one input. -/
def fnExactLessRulesWrong : ChangeSpec := { name := "fnExactLessRules", fn := fun _ => fun
  | [d1, d2, d3] => { results := [.lit (.bool false)], args := [d1, d2, d3] }
  | _ => none }
def FnExactLessRulesWrongFalsely : Prop := fnExactLessRulesRow.holds Try.pinned (OpenSpec.ofChange fnExactLessRulesWrong)

/-- 'laws.FnRegionRules': WHATEVER THE INPUT: true; the input reads as it did. -/
def fnRegionRulesSpec : ChangeSpec := { name := "fnRegionRules", fn := fun _ => fun
  | [d] => { results := [.lit (.bool true)], args := [d] }
  | _ => none }
def fnRegionRulesRow : OpenClaim := { program := "ytdinbpfklikghaa", sum := "21aa5a02dbaeadd157d516507b45a0bc590257da35c2d8a45cab2b0f71cdad6e", func := "loop.example/gridpuzzles/laws.FnRegionRules", spec := "fnRegionRules", apart := false }
def FnRegionRulesSaid : Prop := fnRegionRulesRow.holds Try.pinned (OpenSpec.ofChange fnRegionRulesSpec)

/-- ITS FALSE NEIGHBOUR: 'it returns false'. Refute it at one input. -/
def fnRegionRulesWrong : ChangeSpec := { name := "fnRegionRules", fn := fun _ => fun
  | [d] => { results := [.lit (.bool false)], args := [d] }
  | _ => none }
def FnRegionRulesWrongFalsely : Prop := fnRegionRulesRow.holds Try.pinned (OpenSpec.ofChange fnRegionRulesWrong)

/-- 'laws.FnLoopClosed': WHATEVER THE INPUT: true; the input reads as it did. -/
def fnLoopClosedSpec : ChangeSpec := { name := "fnLoopClosed", fn := fun _ => fun
  | [d] => { results := [.lit (.bool true)], args := [d] }
  | _ => none }
def fnLoopClosedRow : OpenClaim := { program := "ytdinbpfklikghaa", sum := "21aa5a02dbaeadd157d516507b45a0bc590257da35c2d8a45cab2b0f71cdad6e", func := "loop.example/gridpuzzles/laws.FnLoopClosed", spec := "fnLoopClosed", unfollowed := true, recurses := true, apart := false }
def FnLoopClosedSaid : Prop := fnLoopClosedRow.holds Try.pinned (OpenSpec.ofChange fnLoopClosedSpec)

/-- ITS FALSE NEIGHBOUR: 'it returns false'. Refute it at one input. -/
def fnLoopClosedWrong : ChangeSpec := { name := "fnLoopClosed", fn := fun _ => fun
  | [d] => { results := [.lit (.bool false)], args := [d] }
  | _ => none }
def FnLoopClosedWrongFalsely : Prop := fnLoopClosedRow.holds Try.pinned (OpenSpec.ofChange fnLoopClosedWrong)

/-- 'laws.FnExactCageRules': WHATEVER THE INPUT: true; the input reads as it did. -/
def fnExactCageRulesSpec : ChangeSpec := { name := "fnExactCageRules", fn := fun _ => fun
  | [d1, d2, d3, d4] => { results := [.lit (.bool true)], args := [d1, d2, d3, d4] }
  | _ => none }
def fnExactCageRulesRow : OpenClaim := { program := "ytdinbpfklikghaa", sum := "21aa5a02dbaeadd157d516507b45a0bc590257da35c2d8a45cab2b0f71cdad6e", func := "loop.example/gridpuzzles/laws.FnExactCageRules", spec := "fnExactCageRules", apart := false }
def FnExactCageRulesSaid : Prop := fnExactCageRulesRow.holds Try.pinned (OpenSpec.ofChange fnExactCageRulesSpec)

/-- ITS FALSE NEIGHBOUR: 'it returns false'. Refute it at one input. -/
def fnExactCageRulesWrong : ChangeSpec := { name := "fnExactCageRules", fn := fun _ => fun
  | [d1, d2, d3, d4] => { results := [.lit (.bool false)], args := [d1, d2, d3, d4] }
  | _ => none }
def FnExactCageRulesWrongFalsely : Prop := fnExactCageRulesRow.holds Try.pinned (OpenSpec.ofChange fnExactCageRulesWrong)

/-- 'laws.FnExactLoopInside': WHATEVER THE INPUT: true; the input reads as it did. -/
def fnExactLoopInsideSpec : ChangeSpec := { name := "fnExactLoopInside", fn := fun _ => fun
  | [d] => { results := [.lit (.bool true)], args := [d] }
  | _ => none }
def fnExactLoopInsideRow : OpenClaim := { program := "ytdinbpfklikghaa", sum := "21aa5a02dbaeadd157d516507b45a0bc590257da35c2d8a45cab2b0f71cdad6e", func := "loop.example/gridpuzzles/laws.FnExactLoopInside", spec := "fnExactLoopInside", unfollowed := true, recurses := true, apart := false }
def FnExactLoopInsideSaid : Prop := fnExactLoopInsideRow.holds Try.pinned (OpenSpec.ofChange fnExactLoopInsideSpec)

/-- ITS FALSE NEIGHBOUR: 'it returns false'. Refute it at one input. -/
def fnExactLoopInsideWrong : ChangeSpec := { name := "fnExactLoopInside", fn := fun _ => fun
  | [d] => { results := [.lit (.bool false)], args := [d] }
  | _ => none }
def FnExactLoopInsideWrongFalsely : Prop := fnExactLoopInsideRow.holds Try.pinned (OpenSpec.ofChange fnExactLoopInsideWrong)

/-- 'laws.FnLoopInside': WHATEVER THE INPUT: true; the input reads as it did. -/
def fnLoopInsideSpec : ChangeSpec := { name := "fnLoopInside", fn := fun _ => fun
  | [d] => { results := [.lit (.bool true)], args := [d] }
  | _ => none }
def fnLoopInsideRow : OpenClaim := { program := "ytdinbpfklikghaa", sum := "21aa5a02dbaeadd157d516507b45a0bc590257da35c2d8a45cab2b0f71cdad6e", func := "loop.example/gridpuzzles/laws.FnLoopInside", spec := "fnLoopInside", unfollowed := true, recurses := true, apart := false }
def FnLoopInsideSaid : Prop := fnLoopInsideRow.holds Try.pinned (OpenSpec.ofChange fnLoopInsideSpec)

/-- ITS FALSE NEIGHBOUR: 'it returns false'. Refute it at one input. -/
def fnLoopInsideWrong : ChangeSpec := { name := "fnLoopInside", fn := fun _ => fun
  | [d] => { results := [.lit (.bool false)], args := [d] }
  | _ => none }
def FnLoopInsideWrongFalsely : Prop := fnLoopInsideRow.holds Try.pinned (OpenSpec.ofChange fnLoopInsideWrong)

/- THE SECOND FORM. 'bulk': how many values and letters a reading holds, each counted each time it is reached (what is shared counts as often as it is met; a slice's spare places count too). A statement '..UptoSaid' is the law's where the arguments, and the package variables that the reading takes, are together of bulk at most 1048576: NARROWER than '..Said'. Prove '..Said' where nothing that the law and all that it calls make is longer than what came in: it says more and counts as full. Else prove '..UptoSaid'. A law counts once. -/
mutual
def uptoBulk {H : Type} : DataW H → Nat
  | .lit (.string bytes) => bytes.length + 1
  | .lit _ => 1
  | .nil => 1
  | .ptr d => uptoBulk d + 1
  | .slice elems spare => uptoBulkAll elems + uptoBulkAll spare + 1
  | .agg parts => uptoBulkAll parts + 1
  | .iface _ d => uptoBulk d + 1
  | .map entries => uptoBulkEntries entries + 1
  | .held _ => 1
def uptoBulkAll {H : Type} : List (DataW H) → Nat
  | [] => 0
  | d :: r => uptoBulk d + uptoBulkAll r
def uptoBulkEntries {H : Type} : List (Lit × DataW H) → Nat
  | [] => 0
  | x :: r => uptoBulkEntry x + uptoBulkEntries r
def uptoBulkEntry {H : Type} : Lit × DataW H → Nat
  | (.string bytes, d) => bytes.length + uptoBulk d + 1
  | (_, d) => uptoBulk d + 1
 end
def uptoSmall : (H : Type) → List (DataW H) → Bool := fun _ ds => decide (uptoBulkAll ds ≤ 1048576)
def OpenSpec.upto (s : _root_.Go.ChangeSpec) : _root_.Go.OpenSpec := { _root_.Go.OpenSpec.ofChange s with cond := some uptoSmall }

/-- 'laws.FnExactLoopLength', WHERE WHAT IT READS IS OF BULK AT MOST 1048576: true; the input reads as it did. -/
def fnExactLoopLengthUptoRow : OpenClaim := { program := "ytdinbpfklikghaa", sum := "21aa5a02dbaeadd157d516507b45a0bc590257da35c2d8a45cab2b0f71cdad6e", func := "loop.example/gridpuzzles/laws.FnExactLoopLength", spec := "fnExactLoopLength", apart := false, narrowed := true }
def FnExactLoopLengthUptoSaid : Prop := fnExactLoopLengthUptoRow.holds Try.pinned (OpenSpec.upto fnExactLoopLengthSpec)

/-- 'laws.FnRegionConnected', WHERE WHAT IT READS IS OF BULK AT MOST 1048576: true; the input reads as it did. -/
def fnRegionConnectedUptoRow : OpenClaim := { program := "ytdinbpfklikghaa", sum := "21aa5a02dbaeadd157d516507b45a0bc590257da35c2d8a45cab2b0f71cdad6e", func := "loop.example/gridpuzzles/laws.FnRegionConnected", spec := "fnRegionConnected", apart := false, narrowed := true }
def FnRegionConnectedUptoSaid : Prop := fnRegionConnectedUptoRow.holds Try.pinned (OpenSpec.upto fnRegionConnectedSpec)

/-- 'laws.FnExactLoopClues', WHERE WHAT IT READS IS OF BULK AT MOST 1048576: true; the input reads as it did. -/
def fnExactLoopCluesUptoRow : OpenClaim := { program := "ytdinbpfklikghaa", sum := "21aa5a02dbaeadd157d516507b45a0bc590257da35c2d8a45cab2b0f71cdad6e", func := "loop.example/gridpuzzles/laws.FnExactLoopClues", spec := "fnExactLoopClues", apart := false, narrowed := true }
def FnExactLoopCluesUptoSaid : Prop := fnExactLoopCluesUptoRow.holds Try.pinned (OpenSpec.upto fnExactLoopCluesSpec)

/-- 'laws.FnLoopClues', WHERE WHAT IT READS IS OF BULK AT MOST 1048576: true; the input reads as it did. -/
def fnLoopCluesUptoRow : OpenClaim := { program := "ytdinbpfklikghaa", sum := "21aa5a02dbaeadd157d516507b45a0bc590257da35c2d8a45cab2b0f71cdad6e", func := "loop.example/gridpuzzles/laws.FnLoopClues", spec := "fnLoopClues", apart := false, narrowed := true }
def FnLoopCluesUptoSaid : Prop := fnLoopCluesUptoRow.holds Try.pinned (OpenSpec.upto fnLoopCluesSpec)

/-- 'laws.FnLoopLength', WHERE WHAT IT READS IS OF BULK AT MOST 1048576: true; the input reads as it did. -/
def fnLoopLengthUptoRow : OpenClaim := { program := "ytdinbpfklikghaa", sum := "21aa5a02dbaeadd157d516507b45a0bc590257da35c2d8a45cab2b0f71cdad6e", func := "loop.example/gridpuzzles/laws.FnLoopLength", spec := "fnLoopLength", unfollowed := true, recurses := true, apart := false, narrowed := true }
def FnLoopLengthUptoSaid : Prop := fnLoopLengthUptoRow.holds Try.pinned (OpenSpec.upto fnLoopLengthSpec)

/-- 'laws.FnLoopAround', WHERE WHAT IT READS IS OF BULK AT MOST 1048576: true; the input reads as it did. -/
def fnLoopAroundUptoRow : OpenClaim := { program := "ytdinbpfklikghaa", sum := "21aa5a02dbaeadd157d516507b45a0bc590257da35c2d8a45cab2b0f71cdad6e", func := "loop.example/gridpuzzles/laws.FnLoopAround", spec := "fnLoopAround", unfollowed := true, recurses := true, apart := false, narrowed := true }
def FnLoopAroundUptoSaid : Prop := fnLoopAroundUptoRow.holds Try.pinned (OpenSpec.upto fnLoopAroundSpec)

/-- 'laws.FnExactLoopClosed', WHERE WHAT IT READS IS OF BULK AT MOST 1048576: true; the input reads as it did. -/
def fnExactLoopClosedUptoRow : OpenClaim := { program := "ytdinbpfklikghaa", sum := "21aa5a02dbaeadd157d516507b45a0bc590257da35c2d8a45cab2b0f71cdad6e", func := "loop.example/gridpuzzles/laws.FnExactLoopClosed", spec := "fnExactLoopClosed", unfollowed := true, recurses := true, apart := false, narrowed := true }
def FnExactLoopClosedUptoSaid : Prop := fnExactLoopClosedUptoRow.holds Try.pinned (OpenSpec.upto fnExactLoopClosedSpec)

/-- 'laws.FnExactApartRules', WHERE WHAT IT READS IS OF BULK AT MOST 1048576: true; the input reads as it did. -/
def fnExactApartRulesUptoRow : OpenClaim := { program := "ytdinbpfklikghaa", sum := "21aa5a02dbaeadd157d516507b45a0bc590257da35c2d8a45cab2b0f71cdad6e", func := "loop.example/gridpuzzles/laws.FnExactApartRules", spec := "fnExactApartRules", apart := false, narrowed := true }
def FnExactApartRulesUptoSaid : Prop := fnExactApartRulesUptoRow.holds Try.pinned (OpenSpec.upto fnExactApartRulesSpec)

/-- 'laws.FnLoopCells', WHERE WHAT IT READS IS OF BULK AT MOST 1048576: true; the input reads as it did. -/
def fnLoopCellsUptoRow : OpenClaim := { program := "ytdinbpfklikghaa", sum := "21aa5a02dbaeadd157d516507b45a0bc590257da35c2d8a45cab2b0f71cdad6e", func := "loop.example/gridpuzzles/laws.FnLoopCells", spec := "fnLoopCells", unfollowed := true, recurses := true, apart := false, narrowed := true }
def FnLoopCellsUptoSaid : Prop := fnLoopCellsUptoRow.holds Try.pinned (OpenSpec.upto fnLoopCellsSpec)

/-- 'laws.FnExactLessRules', WHERE WHAT IT READS IS OF BULK AT MOST 1048576: true; the input reads as it did. -/
def fnExactLessRulesUptoRow : OpenClaim := { program := "ytdinbpfklikghaa", sum := "21aa5a02dbaeadd157d516507b45a0bc590257da35c2d8a45cab2b0f71cdad6e", func := "loop.example/gridpuzzles/laws.FnExactLessRules", spec := "fnExactLessRules", apart := false, narrowed := true }
def FnExactLessRulesUptoSaid : Prop := fnExactLessRulesUptoRow.holds Try.pinned (OpenSpec.upto fnExactLessRulesSpec)

/-- 'laws.FnRegionRules', WHERE WHAT IT READS IS OF BULK AT MOST 1048576: true; the input reads as it did. -/
def fnRegionRulesUptoRow : OpenClaim := { program := "ytdinbpfklikghaa", sum := "21aa5a02dbaeadd157d516507b45a0bc590257da35c2d8a45cab2b0f71cdad6e", func := "loop.example/gridpuzzles/laws.FnRegionRules", spec := "fnRegionRules", apart := false, narrowed := true }
def FnRegionRulesUptoSaid : Prop := fnRegionRulesUptoRow.holds Try.pinned (OpenSpec.upto fnRegionRulesSpec)

/-- 'laws.FnLoopClosed', WHERE WHAT IT READS IS OF BULK AT MOST 1048576: true; the input reads as it did. -/
def fnLoopClosedUptoRow : OpenClaim := { program := "ytdinbpfklikghaa", sum := "21aa5a02dbaeadd157d516507b45a0bc590257da35c2d8a45cab2b0f71cdad6e", func := "loop.example/gridpuzzles/laws.FnLoopClosed", spec := "fnLoopClosed", unfollowed := true, recurses := true, apart := false, narrowed := true }
def FnLoopClosedUptoSaid : Prop := fnLoopClosedUptoRow.holds Try.pinned (OpenSpec.upto fnLoopClosedSpec)

/-- 'laws.FnExactCageRules', WHERE WHAT IT READS IS OF BULK AT MOST 1048576: true; the input reads as it did. -/
def fnExactCageRulesUptoRow : OpenClaim := { program := "ytdinbpfklikghaa", sum := "21aa5a02dbaeadd157d516507b45a0bc590257da35c2d8a45cab2b0f71cdad6e", func := "loop.example/gridpuzzles/laws.FnExactCageRules", spec := "fnExactCageRules", apart := false, narrowed := true }
def FnExactCageRulesUptoSaid : Prop := fnExactCageRulesUptoRow.holds Try.pinned (OpenSpec.upto fnExactCageRulesSpec)

/-- 'laws.FnExactLoopInside', WHERE WHAT IT READS IS OF BULK AT MOST 1048576: true; the input reads as it did. -/
def fnExactLoopInsideUptoRow : OpenClaim := { program := "ytdinbpfklikghaa", sum := "21aa5a02dbaeadd157d516507b45a0bc590257da35c2d8a45cab2b0f71cdad6e", func := "loop.example/gridpuzzles/laws.FnExactLoopInside", spec := "fnExactLoopInside", unfollowed := true, recurses := true, apart := false, narrowed := true }
def FnExactLoopInsideUptoSaid : Prop := fnExactLoopInsideUptoRow.holds Try.pinned (OpenSpec.upto fnExactLoopInsideSpec)

/-- 'laws.FnLoopInside', WHERE WHAT IT READS IS OF BULK AT MOST 1048576: true; the input reads as it did. -/
def fnLoopInsideUptoRow : OpenClaim := { program := "ytdinbpfklikghaa", sum := "21aa5a02dbaeadd157d516507b45a0bc590257da35c2d8a45cab2b0f71cdad6e", func := "loop.example/gridpuzzles/laws.FnLoopInside", spec := "fnLoopInside", unfollowed := true, recurses := true, apart := false, narrowed := true }
def FnLoopInsideUptoSaid : Prop := fnLoopInsideUptoRow.holds Try.pinned (OpenSpec.upto fnLoopInsideSpec)

end Rows
end Go.Proofs.Ytdinbpfklikghaa
