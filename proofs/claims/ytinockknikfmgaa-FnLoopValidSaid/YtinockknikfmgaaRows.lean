/-
  No cell of these rows narrows 'for every input' (looked for: loops, veiled, ifaces, maps, wideKeys, modest, calm, conditions, laid).
  DERIVED. THE GIVEN ROWS OF THIS SEAT. 12 by the template 'for every input the law returns true; each argument reads behind the call as it read before'; 0 by the template 'total and deterministic' (their statements: YtinockknikfmgaaTotals.lean).
  GIVEN WITH THE SEED: the statements are not yours to turn. If you find one false, say at which input.
  Laid BY PROGRAM, IN A SANDBOX (cutbox-rows.mjs): the forced cells as the released guide's own fill.sh prints them over the translation 952c69126e0ea568… (all of the seat's roots in one cut). By AI agents, Wed Nov 11 2026. No macro, syntax, notation, axiom, sorry.
-/
import Derived.Test.YtinockknikfmgaaChecked
import GoSem.Claim
import GoSem.ClaimJoined
import GoSem.ClaimMapViews
import Derived.JoinedTies
import Derived.KernelRfl
namespace Go.Proofs.Ytinockknikfmgaa
/- THE CELL 'sum', in the pinned program and in every row, IS THE sha256 OF THE DUMP (.gsa) THAT YtinockknikfmgaaProg.lean LOADS. Nothing in Lean hashes anything: it is a label: what it is worth is what the hold of that sum in a sandbox is worth. -/
noncomputable def Try.pinned : Pinned := { name := "ytinockknikfmgaa", sum := "952c69126e0ea5681127a390377ddd1a10d3a3b4337500000d581f2a0d5b26d3", checked := Try.checked }
namespace Rows
def none {H : Type} : Left H := { results := [], args := [] }

/-- 'laws.FnExactBoxRegions': WHATEVER THE INPUT: true; the input reads as it did. -/
def fnExactBoxRegionsSpec : ChangeSpec := { name := "fnExactBoxRegions", fn := fun _ => fun
  | [] => { results := [.lit (.bool true)], args := [] }
  | _ => none }
def fnExactBoxRegionsRow : OpenClaim := { program := "ytinockknikfmgaa", sum := "952c69126e0ea5681127a390377ddd1a10d3a3b4337500000d581f2a0d5b26d3", func := "loop.example/gridpuzzles/laws.FnExactBoxRegions", spec := "fnExactBoxRegions", apart := false }
def FnExactBoxRegionsSaid : Prop := fnExactBoxRegionsRow.holds Try.pinned (OpenSpec.ofChange fnExactBoxRegionsSpec)

/-- ITS FALSE NEIGHBOUR: 'it returns false'. Refute it at one input. -/
def fnExactBoxRegionsWrong : ChangeSpec := { name := "fnExactBoxRegions", fn := fun _ => fun
  | [] => { results := [.lit (.bool false)], args := [] }
  | _ => none }
def FnExactBoxRegionsWrongFalsely : Prop := fnExactBoxRegionsRow.holds Try.pinned (OpenSpec.ofChange fnExactBoxRegionsWrong)

/-- 'laws.FnExactRegionsValid': WHATEVER THE INPUT: true; the input reads as it did. -/
def fnExactRegionsValidSpec : ChangeSpec := { name := "fnExactRegionsValid", fn := fun _ => fun
  | [d1, d2] => { results := [.lit (.bool true)], args := [d1, d2] }
  | _ => none }
def fnExactRegionsValidRow : OpenClaim := { program := "ytinockknikfmgaa", sum := "952c69126e0ea5681127a390377ddd1a10d3a3b4337500000d581f2a0d5b26d3", func := "loop.example/gridpuzzles/laws.FnExactRegionsValid", spec := "fnExactRegionsValid", apart := false }
def FnExactRegionsValidSaid : Prop := fnExactRegionsValidRow.holds Try.pinned (OpenSpec.ofChange fnExactRegionsValidSpec)

/-- ITS FALSE NEIGHBOUR: 'it returns false'. Refute it at one input. -/
def fnExactRegionsValidWrong : ChangeSpec := { name := "fnExactRegionsValid", fn := fun _ => fun
  | [d1, d2] => { results := [.lit (.bool false)], args := [d1, d2] }
  | _ => none }
def FnExactRegionsValidWrongFalsely : Prop := fnExactRegionsValidRow.holds Try.pinned (OpenSpec.ofChange fnExactRegionsValidWrong)

/-- 'laws.FnExactRegionCells': WHATEVER THE INPUT: true; the input reads as it did. -/
def fnExactRegionCellsSpec : ChangeSpec := { name := "fnExactRegionCells", fn := fun _ => fun
  | [d1, d2, d3] => { results := [.lit (.bool true)], args := [d1, d2, d3] }
  | _ => none }
def fnExactRegionCellsRow : OpenClaim := { program := "ytinockknikfmgaa", sum := "952c69126e0ea5681127a390377ddd1a10d3a3b4337500000d581f2a0d5b26d3", func := "loop.example/gridpuzzles/laws.FnExactRegionCells", spec := "fnExactRegionCells", apart := false }
def FnExactRegionCellsSaid : Prop := fnExactRegionCellsRow.holds Try.pinned (OpenSpec.ofChange fnExactRegionCellsSpec)

/-- ITS FALSE NEIGHBOUR: 'it returns false'. Refute it at one input. -/
def fnExactRegionCellsWrong : ChangeSpec := { name := "fnExactRegionCells", fn := fun _ => fun
  | [d1, d2, d3] => { results := [.lit (.bool false)], args := [d1, d2, d3] }
  | _ => none }
def FnExactRegionCellsWrongFalsely : Prop := fnExactRegionCellsRow.holds Try.pinned (OpenSpec.ofChange fnExactRegionCellsWrong)

/-- 'laws.FnBoxRegions': WHATEVER THE INPUT: true; the input reads as it did. -/
def fnBoxRegionsSpec : ChangeSpec := { name := "fnBoxRegions", fn := fun _ => fun
  | [d] => { results := [.lit (.bool true)], args := [d] }
  | _ => none }
def fnBoxRegionsRow : OpenClaim := { program := "ytinockknikfmgaa", sum := "952c69126e0ea5681127a390377ddd1a10d3a3b4337500000d581f2a0d5b26d3", func := "loop.example/gridpuzzles/laws.FnBoxRegions", spec := "fnBoxRegions", apart := false }
def FnBoxRegionsSaid : Prop := fnBoxRegionsRow.holds Try.pinned (OpenSpec.ofChange fnBoxRegionsSpec)

/-- ITS FALSE NEIGHBOUR: 'it returns false'. Refute it at one input. -/
def fnBoxRegionsWrong : ChangeSpec := { name := "fnBoxRegions", fn := fun _ => fun
  | [d] => { results := [.lit (.bool false)], args := [d] }
  | _ => none }
def FnBoxRegionsWrongFalsely : Prop := fnBoxRegionsRow.holds Try.pinned (OpenSpec.ofChange fnBoxRegionsWrong)

/-- 'laws.FnExactRegionConnected': WHATEVER THE INPUT: true; the input reads as it did. -/
def fnExactRegionConnectedSpec : ChangeSpec := { name := "fnExactRegionConnected", fn := fun _ => fun
  | [d1, d2, d3] => { results := [.lit (.bool true)], args := [d1, d2, d3] }
  | _ => none }
def fnExactRegionConnectedRow : OpenClaim := { program := "ytinockknikfmgaa", sum := "952c69126e0ea5681127a390377ddd1a10d3a3b4337500000d581f2a0d5b26d3", func := "loop.example/gridpuzzles/laws.FnExactRegionConnected", spec := "fnExactRegionConnected", apart := false }
def FnExactRegionConnectedSaid : Prop := fnExactRegionConnectedRow.holds Try.pinned (OpenSpec.ofChange fnExactRegionConnectedSpec)

/-- ITS FALSE NEIGHBOUR: 'it returns false'. Refute it at one input. -/
def fnExactRegionConnectedWrong : ChangeSpec := { name := "fnExactRegionConnected", fn := fun _ => fun
  | [d1, d2, d3] => { results := [.lit (.bool false)], args := [d1, d2, d3] }
  | _ => none }
def FnExactRegionConnectedWrongFalsely : Prop := fnExactRegionConnectedRow.holds Try.pinned (OpenSpec.ofChange fnExactRegionConnectedWrong)

/-- 'laws.FnRegionsValid': WHATEVER THE INPUT: true; the input reads as it did. -/
def fnRegionsValidSpec : ChangeSpec := { name := "fnRegionsValid", fn := fun _ => fun
  | [d] => { results := [.lit (.bool true)], args := [d] }
  | _ => none }
def fnRegionsValidRow : OpenClaim := { program := "ytinockknikfmgaa", sum := "952c69126e0ea5681127a390377ddd1a10d3a3b4337500000d581f2a0d5b26d3", func := "loop.example/gridpuzzles/laws.FnRegionsValid", spec := "fnRegionsValid", apart := false }
def FnRegionsValidSaid : Prop := fnRegionsValidRow.holds Try.pinned (OpenSpec.ofChange fnRegionsValidSpec)

/-- ITS FALSE NEIGHBOUR: 'it returns false'. Refute it at one input. -/
def fnRegionsValidWrong : ChangeSpec := { name := "fnRegionsValid", fn := fun _ => fun
  | [d] => { results := [.lit (.bool false)], args := [d] }
  | _ => none }
def FnRegionsValidWrongFalsely : Prop := fnRegionsValidRow.holds Try.pinned (OpenSpec.ofChange fnRegionsValidWrong)

/-- 'laws.FnExactLoopValid': WHATEVER THE INPUT: true; the input reads as it did. -/
def fnExactLoopValidSpec : ChangeSpec := { name := "fnExactLoopValid", fn := fun _ => fun
  | [d] => { results := [.lit (.bool true)], args := [d] }
  | _ => none }
def fnExactLoopValidRow : OpenClaim := { program := "ytinockknikfmgaa", sum := "952c69126e0ea5681127a390377ddd1a10d3a3b4337500000d581f2a0d5b26d3", func := "loop.example/gridpuzzles/laws.FnExactLoopValid", spec := "fnExactLoopValid", apart := false }
def FnExactLoopValidSaid : Prop := fnExactLoopValidRow.holds Try.pinned (OpenSpec.ofChange fnExactLoopValidSpec)

/-- ITS FALSE NEIGHBOUR: 'it returns false'. Refute it at one input. -/
def fnExactLoopValidWrong : ChangeSpec := { name := "fnExactLoopValid", fn := fun _ => fun
  | [d] => { results := [.lit (.bool false)], args := [d] }
  | _ => none }
def FnExactLoopValidWrongFalsely : Prop := fnExactLoopValidRow.holds Try.pinned (OpenSpec.ofChange fnExactLoopValidWrong)

/-- 'laws.FnExactLoopAround': WHATEVER THE INPUT: true; the input reads as it did. -/
def fnExactLoopAroundSpec : ChangeSpec := { name := "fnExactLoopAround", fn := fun _ => fun
  | [d1, d2, d3] => { results := [.lit (.bool true)], args := [d1, d2, d3] }
  | _ => none }
def fnExactLoopAroundRow : OpenClaim := { program := "ytinockknikfmgaa", sum := "952c69126e0ea5681127a390377ddd1a10d3a3b4337500000d581f2a0d5b26d3", func := "loop.example/gridpuzzles/laws.FnExactLoopAround", spec := "fnExactLoopAround", unfollowed := true, recurses := true, apart := false }
def FnExactLoopAroundSaid : Prop := fnExactLoopAroundRow.holds Try.pinned (OpenSpec.ofChange fnExactLoopAroundSpec)

/-- ITS FALSE NEIGHBOUR: 'it returns false'. Refute it at one input. -/
def fnExactLoopAroundWrong : ChangeSpec := { name := "fnExactLoopAround", fn := fun _ => fun
  | [d1, d2, d3] => { results := [.lit (.bool false)], args := [d1, d2, d3] }
  | _ => none }
def FnExactLoopAroundWrongFalsely : Prop := fnExactLoopAroundRow.holds Try.pinned (OpenSpec.ofChange fnExactLoopAroundWrong)

/-- 'laws.FnLoopValid': WHATEVER THE INPUT: true; the input reads as it did. -/
def fnLoopValidSpec : ChangeSpec := { name := "fnLoopValid", fn := fun _ => fun
  | [d] => { results := [.lit (.bool true)], args := [d] }
  | _ => none }
def fnLoopValidRow : OpenClaim := { program := "ytinockknikfmgaa", sum := "952c69126e0ea5681127a390377ddd1a10d3a3b4337500000d581f2a0d5b26d3", func := "loop.example/gridpuzzles/laws.FnLoopValid", spec := "fnLoopValid", apart := false }
def FnLoopValidSaid : Prop := fnLoopValidRow.holds Try.pinned (OpenSpec.ofChange fnLoopValidSpec)

/-- ITS FALSE NEIGHBOUR: 'it returns false'. Refute it at one input. -/
def fnLoopValidWrong : ChangeSpec := { name := "fnLoopValid", fn := fun _ => fun
  | [d] => { results := [.lit (.bool false)], args := [d] }
  | _ => none }
def FnLoopValidWrongFalsely : Prop := fnLoopValidRow.holds Try.pinned (OpenSpec.ofChange fnLoopValidWrong)

/-- 'laws.FnRegionCells': WHATEVER THE INPUT: true; the input reads as it did. -/
def fnRegionCellsSpec : ChangeSpec := { name := "fnRegionCells", fn := fun _ => fun
  | [d] => { results := [.lit (.bool true)], args := [d] }
  | _ => none }
def fnRegionCellsRow : OpenClaim := { program := "ytinockknikfmgaa", sum := "952c69126e0ea5681127a390377ddd1a10d3a3b4337500000d581f2a0d5b26d3", func := "loop.example/gridpuzzles/laws.FnRegionCells", spec := "fnRegionCells", apart := false }
def FnRegionCellsSaid : Prop := fnRegionCellsRow.holds Try.pinned (OpenSpec.ofChange fnRegionCellsSpec)

/-- ITS FALSE NEIGHBOUR: 'it returns false'. Refute it at one input. -/
def fnRegionCellsWrong : ChangeSpec := { name := "fnRegionCells", fn := fun _ => fun
  | [d] => { results := [.lit (.bool false)], args := [d] }
  | _ => none }
def FnRegionCellsWrongFalsely : Prop := fnRegionCellsRow.holds Try.pinned (OpenSpec.ofChange fnRegionCellsWrong)

/-- 'laws.FnExactRegionRules': WHATEVER THE INPUT: true; the input reads as it did. -/
def fnExactRegionRulesSpec : ChangeSpec := { name := "fnExactRegionRules", fn := fun _ => fun
  | [d1, d2] => { results := [.lit (.bool true)], args := [d1, d2] }
  | _ => none }
def fnExactRegionRulesRow : OpenClaim := { program := "ytinockknikfmgaa", sum := "952c69126e0ea5681127a390377ddd1a10d3a3b4337500000d581f2a0d5b26d3", func := "loop.example/gridpuzzles/laws.FnExactRegionRules", spec := "fnExactRegionRules", apart := false }
def FnExactRegionRulesSaid : Prop := fnExactRegionRulesRow.holds Try.pinned (OpenSpec.ofChange fnExactRegionRulesSpec)

/-- ITS FALSE NEIGHBOUR: 'it returns false'. Refute it at one input. -/
def fnExactRegionRulesWrong : ChangeSpec := { name := "fnExactRegionRules", fn := fun _ => fun
  | [d1, d2] => { results := [.lit (.bool false)], args := [d1, d2] }
  | _ => none }
def FnExactRegionRulesWrongFalsely : Prop := fnExactRegionRulesRow.holds Try.pinned (OpenSpec.ofChange fnExactRegionRulesWrong)

/-- 'laws.FnSumMust': WHATEVER THE INPUT: true; the input reads as it did. -/
def fnSumMustSpec : ChangeSpec := { name := "fnSumMust", fn := fun _ => fun
  | [d] => { results := [.lit (.bool true)], args := [d] }
  | _ => none }
def fnSumMustRow : OpenClaim := { program := "ytinockknikfmgaa", sum := "952c69126e0ea5681127a390377ddd1a10d3a3b4337500000d581f2a0d5b26d3", func := "loop.example/gridpuzzles/laws.FnSumMust", spec := "fnSumMust", apart := false }
def FnSumMustSaid : Prop := fnSumMustRow.holds Try.pinned (OpenSpec.ofChange fnSumMustSpec)

/-- ITS FALSE NEIGHBOUR: 'it returns false'. Refute it at one input. -/
def fnSumMustWrong : ChangeSpec := { name := "fnSumMust", fn := fun _ => fun
  | [d] => { results := [.lit (.bool false)], args := [d] }
  | _ => none }
def FnSumMustWrongFalsely : Prop := fnSumMustRow.holds Try.pinned (OpenSpec.ofChange fnSumMustWrong)

/- THE SECOND FORM. 'bulk': how many values and letters a reading holds, each counted each time it is reached (what is shared counts as often as it is met; a slice's spare places count too). A statement '..UptoSaid' is the law's where the arguments, and the package variables that the reading takes, are together of bulk at most 1048576: NARROWER than '..Said'. Prove '..Said' where nothing that the law and all that it calls make is longer than what came in: it says more and counts as full. Else prove '..UptoSaid'. A law counts once. -/
mutual
def uptoBulk {H : Type} : DataW H → Nat
  | .lit (.string bytes) => bytes.length + 1
  | .lit _ => 1
  | .nil => 1
  | .ptr d => uptoBulk d + 1
  | .slice elems spare => uptoBulkAll elems + uptoBulkAll spare + 1
  | .agg parts => uptoBulkAll parts + 1
  | .iface _ d => uptoBulk d + 1
  | .map entries => uptoBulkEntries entries + 1
  | .held _ => 1
def uptoBulkAll {H : Type} : List (DataW H) → Nat
  | [] => 0
  | d :: r => uptoBulk d + uptoBulkAll r
def uptoBulkEntries {H : Type} : List (Lit × DataW H) → Nat
  | [] => 0
  | x :: r => uptoBulkEntry x + uptoBulkEntries r
def uptoBulkEntry {H : Type} : Lit × DataW H → Nat
  | (.string bytes, d) => bytes.length + uptoBulk d + 1
  | (_, d) => uptoBulk d + 1
 end
def uptoSmall : (H : Type) → List (DataW H) → Bool := fun _ ds => decide (uptoBulkAll ds ≤ 1048576)
def OpenSpec.upto (s : _root_.Go.ChangeSpec) : _root_.Go.OpenSpec := { _root_.Go.OpenSpec.ofChange s with cond := some uptoSmall }

/-- 'laws.FnExactBoxRegions', WHERE WHAT IT READS IS OF BULK AT MOST 1048576: true; the input reads as it did. -/
def fnExactBoxRegionsUptoRow : OpenClaim := { program := "ytinockknikfmgaa", sum := "952c69126e0ea5681127a390377ddd1a10d3a3b4337500000d581f2a0d5b26d3", func := "loop.example/gridpuzzles/laws.FnExactBoxRegions", spec := "fnExactBoxRegions", apart := false, narrowed := true }
def FnExactBoxRegionsUptoSaid : Prop := fnExactBoxRegionsUptoRow.holds Try.pinned (OpenSpec.upto fnExactBoxRegionsSpec)

/-- 'laws.FnExactRegionsValid', WHERE WHAT IT READS IS OF BULK AT MOST 1048576: true; the input reads as it did. -/
def fnExactRegionsValidUptoRow : OpenClaim := { program := "ytinockknikfmgaa", sum := "952c69126e0ea5681127a390377ddd1a10d3a3b4337500000d581f2a0d5b26d3", func := "loop.example/gridpuzzles/laws.FnExactRegionsValid", spec := "fnExactRegionsValid", apart := false, narrowed := true }
def FnExactRegionsValidUptoSaid : Prop := fnExactRegionsValidUptoRow.holds Try.pinned (OpenSpec.upto fnExactRegionsValidSpec)

/-- 'laws.FnExactRegionCells', WHERE WHAT IT READS IS OF BULK AT MOST 1048576: true; the input reads as it did. -/
def fnExactRegionCellsUptoRow : OpenClaim := { program := "ytinockknikfmgaa", sum := "952c69126e0ea5681127a390377ddd1a10d3a3b4337500000d581f2a0d5b26d3", func := "loop.example/gridpuzzles/laws.FnExactRegionCells", spec := "fnExactRegionCells", apart := false, narrowed := true }
def FnExactRegionCellsUptoSaid : Prop := fnExactRegionCellsUptoRow.holds Try.pinned (OpenSpec.upto fnExactRegionCellsSpec)

/-- 'laws.FnBoxRegions', WHERE WHAT IT READS IS OF BULK AT MOST 1048576: true; the input reads as it did. -/
def fnBoxRegionsUptoRow : OpenClaim := { program := "ytinockknikfmgaa", sum := "952c69126e0ea5681127a390377ddd1a10d3a3b4337500000d581f2a0d5b26d3", func := "loop.example/gridpuzzles/laws.FnBoxRegions", spec := "fnBoxRegions", apart := false, narrowed := true }
def FnBoxRegionsUptoSaid : Prop := fnBoxRegionsUptoRow.holds Try.pinned (OpenSpec.upto fnBoxRegionsSpec)

/-- 'laws.FnExactRegionConnected', WHERE WHAT IT READS IS OF BULK AT MOST 1048576: true; the input reads as it did. -/
def fnExactRegionConnectedUptoRow : OpenClaim := { program := "ytinockknikfmgaa", sum := "952c69126e0ea5681127a390377ddd1a10d3a3b4337500000d581f2a0d5b26d3", func := "loop.example/gridpuzzles/laws.FnExactRegionConnected", spec := "fnExactRegionConnected", apart := false, narrowed := true }
def FnExactRegionConnectedUptoSaid : Prop := fnExactRegionConnectedUptoRow.holds Try.pinned (OpenSpec.upto fnExactRegionConnectedSpec)

/-- 'laws.FnRegionsValid', WHERE WHAT IT READS IS OF BULK AT MOST 1048576: true; the input reads as it did. -/
def fnRegionsValidUptoRow : OpenClaim := { program := "ytinockknikfmgaa", sum := "952c69126e0ea5681127a390377ddd1a10d3a3b4337500000d581f2a0d5b26d3", func := "loop.example/gridpuzzles/laws.FnRegionsValid", spec := "fnRegionsValid", apart := false, narrowed := true }
def FnRegionsValidUptoSaid : Prop := fnRegionsValidUptoRow.holds Try.pinned (OpenSpec.upto fnRegionsValidSpec)

/-- 'laws.FnExactLoopValid', WHERE WHAT IT READS IS OF BULK AT MOST 1048576: true; the input reads as it did. -/
def fnExactLoopValidUptoRow : OpenClaim := { program := "ytinockknikfmgaa", sum := "952c69126e0ea5681127a390377ddd1a10d3a3b4337500000d581f2a0d5b26d3", func := "loop.example/gridpuzzles/laws.FnExactLoopValid", spec := "fnExactLoopValid", apart := false, narrowed := true }
def FnExactLoopValidUptoSaid : Prop := fnExactLoopValidUptoRow.holds Try.pinned (OpenSpec.upto fnExactLoopValidSpec)

/-- 'laws.FnExactLoopAround', WHERE WHAT IT READS IS OF BULK AT MOST 1048576: true; the input reads as it did. -/
def fnExactLoopAroundUptoRow : OpenClaim := { program := "ytinockknikfmgaa", sum := "952c69126e0ea5681127a390377ddd1a10d3a3b4337500000d581f2a0d5b26d3", func := "loop.example/gridpuzzles/laws.FnExactLoopAround", spec := "fnExactLoopAround", unfollowed := true, recurses := true, apart := false, narrowed := true }
def FnExactLoopAroundUptoSaid : Prop := fnExactLoopAroundUptoRow.holds Try.pinned (OpenSpec.upto fnExactLoopAroundSpec)

/-- 'laws.FnLoopValid', WHERE WHAT IT READS IS OF BULK AT MOST 1048576: true; the input reads as it did. -/
def fnLoopValidUptoRow : OpenClaim := { program := "ytinockknikfmgaa", sum := "952c69126e0ea5681127a390377ddd1a10d3a3b4337500000d581f2a0d5b26d3", func := "loop.example/gridpuzzles/laws.FnLoopValid", spec := "fnLoopValid", apart := false, narrowed := true }
def FnLoopValidUptoSaid : Prop := fnLoopValidUptoRow.holds Try.pinned (OpenSpec.upto fnLoopValidSpec)

/-- 'laws.FnRegionCells', WHERE WHAT IT READS IS OF BULK AT MOST 1048576: true; the input reads as it did. -/
def fnRegionCellsUptoRow : OpenClaim := { program := "ytinockknikfmgaa", sum := "952c69126e0ea5681127a390377ddd1a10d3a3b4337500000d581f2a0d5b26d3", func := "loop.example/gridpuzzles/laws.FnRegionCells", spec := "fnRegionCells", apart := false, narrowed := true }
def FnRegionCellsUptoSaid : Prop := fnRegionCellsUptoRow.holds Try.pinned (OpenSpec.upto fnRegionCellsSpec)

/-- 'laws.FnExactRegionRules', WHERE WHAT IT READS IS OF BULK AT MOST 1048576: true; the input reads as it did. -/
def fnExactRegionRulesUptoRow : OpenClaim := { program := "ytinockknikfmgaa", sum := "952c69126e0ea5681127a390377ddd1a10d3a3b4337500000d581f2a0d5b26d3", func := "loop.example/gridpuzzles/laws.FnExactRegionRules", spec := "fnExactRegionRules", apart := false, narrowed := true }
def FnExactRegionRulesUptoSaid : Prop := fnExactRegionRulesUptoRow.holds Try.pinned (OpenSpec.upto fnExactRegionRulesSpec)

/-- 'laws.FnSumMust', WHERE WHAT IT READS IS OF BULK AT MOST 1048576: true; the input reads as it did. -/
def fnSumMustUptoRow : OpenClaim := { program := "ytinockknikfmgaa", sum := "952c69126e0ea5681127a390377ddd1a10d3a3b4337500000d581f2a0d5b26d3", func := "loop.example/gridpuzzles/laws.FnSumMust", spec := "fnSumMust", apart := false, narrowed := true }
def FnSumMustUptoSaid : Prop := fnSumMustUptoRow.holds Try.pinned (OpenSpec.upto fnSumMustSpec)

end Rows
end Go.Proofs.Ytinockknikfmgaa
