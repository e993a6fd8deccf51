/-
  No cell of these rows narrows 'for every input' (looked for: loops, veiled, ifaces, maps, wideKeys, modest, calm, conditions, laid).
  DERIVED. THE GIVEN ROWS OF THIS SEAT. 7 by the template 'for every input the law returns true; each argument reads behind the call as it read before'; 0 by the template 'total and deterministic' (their statements: YtncmneliinbjdaaTotals.lean).
  GIVEN WITH THE SEED: the statements are not yours to turn. If you find one false, say at which input.
  Laid BY PROGRAM, IN A SANDBOX (cutbox-rows.mjs): the forced cells as the released guide's own fill.sh prints them over the translation 9aae44df8c4af6fa… (all of the seat's roots in one cut). By AI agents, Wed Nov 11 2026. No macro, syntax, notation, axiom, sorry.
-/
import Derived.Test.YtncmneliinbjdaaChecked
import GoSem.Claim
import GoSem.ClaimJoined
import GoSem.ClaimMapViews
import Derived.JoinedTies
import Derived.KernelRfl
namespace Go.Proofs.Ytncmneliinbjdaa
/- THE CELL 'sum', in the pinned program and in every row, IS THE sha256 OF THE DUMP (.gsa) THAT YtncmneliinbjdaaProg.lean LOADS. Nothing in Lean hashes anything: it is a label: what it is worth is what the hold of that sum in a sandbox is worth. -/
noncomputable def Try.pinned : Pinned := { name := "ytncmneliinbjdaa", sum := "9aae44df8c4af6fa48cefd2d64344b7e8891994dd0661415927c444e94ce23de", checked := Try.checked }
namespace Rows
def none {H : Type} : Left H := { results := [], args := [] }

/-- 'laws.FnExactLoopAround': WHATEVER THE INPUT: true; the input reads as it did. -/
def fnExactLoopAroundSpec : ChangeSpec := { name := "fnExactLoopAround", fn := fun _ => fun
  | [d1, d2, d3] => { results := [.lit (.bool true)], args := [d1, d2, d3] }
  | _ => none }
def fnExactLoopAroundRow : OpenClaim := { program := "ytncmneliinbjdaa", sum := "9aae44df8c4af6fa48cefd2d64344b7e8891994dd0661415927c444e94ce23de", func := "loop.example/gridpuzzles/laws.FnExactLoopAround", spec := "fnExactLoopAround", unfollowed := true, recurses := true, apart := false }
def FnExactLoopAroundSaid : Prop := fnExactLoopAroundRow.holds Try.pinned (OpenSpec.ofChange fnExactLoopAroundSpec)

/-- ITS FALSE NEIGHBOUR: 'it returns false'. Refute it at one input. -/
def fnExactLoopAroundWrong : ChangeSpec := { name := "fnExactLoopAround", fn := fun _ => fun
  | [d1, d2, d3] => { results := [.lit (.bool false)], args := [d1, d2, d3] }
  | _ => none }
def FnExactLoopAroundWrongFalsely : Prop := fnExactLoopAroundRow.holds Try.pinned (OpenSpec.ofChange fnExactLoopAroundWrong)

/-- 'laws.FnExactLoopClues': WHATEVER THE INPUT: true; the input reads as it did. -/
def fnExactLoopCluesSpec : ChangeSpec := { name := "fnExactLoopClues", fn := fun _ => fun
  | [d] => { results := [.lit (.bool true)], args := [d] }
  | _ => none }
def fnExactLoopCluesRow : OpenClaim := { program := "ytncmneliinbjdaa", sum := "9aae44df8c4af6fa48cefd2d64344b7e8891994dd0661415927c444e94ce23de", func := "loop.example/gridpuzzles/laws.FnExactLoopClues", spec := "fnExactLoopClues", apart := false }
def FnExactLoopCluesSaid : Prop := fnExactLoopCluesRow.holds Try.pinned (OpenSpec.ofChange fnExactLoopCluesSpec)

/-- ITS FALSE NEIGHBOUR: 'it returns false'. Refute it at one input. -/
def fnExactLoopCluesWrong : ChangeSpec := { name := "fnExactLoopClues", fn := fun _ => fun
  | [d] => { results := [.lit (.bool false)], args := [d] }
  | _ => none }
def FnExactLoopCluesWrongFalsely : Prop := fnExactLoopCluesRow.holds Try.pinned (OpenSpec.ofChange fnExactLoopCluesWrong)

/-- 'laws.FnExactLoopInside': WHATEVER THE INPUT: true; the input reads as it did. -/
def fnExactLoopInsideSpec : ChangeSpec := { name := "fnExactLoopInside", fn := fun _ => fun
  | [d] => { results := [.lit (.bool true)], args := [d] }
  | _ => none }
def fnExactLoopInsideRow : OpenClaim := { program := "ytncmneliinbjdaa", sum := "9aae44df8c4af6fa48cefd2d64344b7e8891994dd0661415927c444e94ce23de", func := "loop.example/gridpuzzles/laws.FnExactLoopInside", spec := "fnExactLoopInside", unfollowed := true, recurses := true, apart := false }
def FnExactLoopInsideSaid : Prop := fnExactLoopInsideRow.holds Try.pinned (OpenSpec.ofChange fnExactLoopInsideSpec)

/-- ITS FALSE NEIGHBOUR: 'it returns false'. Refute it at one input. -/
def fnExactLoopInsideWrong : ChangeSpec := { name := "fnExactLoopInside", fn := fun _ => fun
  | [d] => { results := [.lit (.bool false)], args := [d] }
  | _ => none }
def FnExactLoopInsideWrongFalsely : Prop := fnExactLoopInsideRow.holds Try.pinned (OpenSpec.ofChange fnExactLoopInsideWrong)

/-- 'laws.FnExactRegionRules': WHATEVER THE INPUT: true; the input reads as it did. -/
def fnExactRegionRulesSpec : ChangeSpec := { name := "fnExactRegionRules", fn := fun _ => fun
  | [d1, d2] => { results := [.lit (.bool true)], args := [d1, d2] }
  | _ => none }
def fnExactRegionRulesRow : OpenClaim := { program := "ytncmneliinbjdaa", sum := "9aae44df8c4af6fa48cefd2d64344b7e8891994dd0661415927c444e94ce23de", func := "loop.example/gridpuzzles/laws.FnExactRegionRules", spec := "fnExactRegionRules", apart := false }
def FnExactRegionRulesSaid : Prop := fnExactRegionRulesRow.holds Try.pinned (OpenSpec.ofChange fnExactRegionRulesSpec)

/-- ITS FALSE NEIGHBOUR: 'it returns false'. Refute it at one input. -/
def fnExactRegionRulesWrong : ChangeSpec := { name := "fnExactRegionRules", fn := fun _ => fun
  | [d1, d2] => { results := [.lit (.bool false)], args := [d1, d2] }
  | _ => none }
def FnExactRegionRulesWrongFalsely : Prop := fnExactRegionRulesRow.holds Try.pinned (OpenSpec.ofChange fnExactRegionRulesWrong)

/-- 'laws.FnExactApartRules': WHATEVER THE INPUT: true; the input reads as it did. -/
def fnExactApartRulesSpec : ChangeSpec := { name := "fnExactApartRules", fn := fun _ => fun
  | [d1, d2, d3] => { results := [.lit (.bool true)], args := [d1, d2, d3] }
  | _ => none }
def fnExactApartRulesRow : OpenClaim := { program := "ytncmneliinbjdaa", sum := "9aae44df8c4af6fa48cefd2d64344b7e8891994dd0661415927c444e94ce23de", func := "loop.example/gridpuzzles/laws.FnExactApartRules", spec := "fnExactApartRules", apart := false }
def FnExactApartRulesSaid : Prop := fnExactApartRulesRow.holds Try.pinned (OpenSpec.ofChange fnExactApartRulesSpec)

/-- ITS FALSE NEIGHBOUR: 'it returns false'. Refute it at one input. -/
def fnExactApartRulesWrong : ChangeSpec := { name := "fnExactApartRules", fn := fun _ => fun
  | [d1, d2, d3] => { results := [.lit (.bool false)], args := [d1, d2, d3] }
  | _ => none }
def FnExactApartRulesWrongFalsely : Prop := fnExactApartRulesRow.holds Try.pinned (OpenSpec.ofChange fnExactApartRulesWrong)

/-- 'laws.FnExactLessRules': WHATEVER THE INPUT: true; the input reads as it did. -/
def fnExactLessRulesSpec : ChangeSpec := { name := "fnExactLessRules", fn := fun _ => fun
  | [d1, d2, d3] => { results := [.lit (.bool true)], args := [d1, d2, d3] }
  | _ => none }
def fnExactLessRulesRow : OpenClaim := { program := "ytncmneliinbjdaa", sum := "9aae44df8c4af6fa48cefd2d64344b7e8891994dd0661415927c444e94ce23de", func := "loop.example/gridpuzzles/laws.FnExactLessRules", spec := "fnExactLessRules", apart := false }
def FnExactLessRulesSaid : Prop := fnExactLessRulesRow.holds Try.pinned (OpenSpec.ofChange fnExactLessRulesSpec)

/-- ITS FALSE NEIGHBOUR: 'it returns false'. Refute it at one input. -/
def fnExactLessRulesWrong : ChangeSpec := { name := "fnExactLessRules", fn := fun _ => fun
  | [d1, d2, d3] => { results := [.lit (.bool false)], args := [d1, d2, d3] }
  | _ => none }
def FnExactLessRulesWrongFalsely : Prop := fnExactLessRulesRow.holds Try.pinned (OpenSpec.ofChange fnExactLessRulesWrong)

/-- 'laws.FnExactCageRules': WHATEVER THE INPUT: true; the input reads as it did. -/
def fnExactCageRulesSpec : ChangeSpec := { name := "fnExactCageRules", fn := fun _ => fun
  | [d1, d2, d3, d4] => { results := [.lit (.bool true)], args := [d1, d2, d3, d4] }
  | _ => none }
def fnExactCageRulesRow : OpenClaim := { program := "ytncmneliinbjdaa", sum := "9aae44df8c4af6fa48cefd2d64344b7e8891994dd0661415927c444e94ce23de", func := "loop.example/gridpuzzles/laws.FnExactCageRules", spec := "fnExactCageRules", apart := false }
def FnExactCageRulesSaid : Prop := fnExactCageRulesRow.holds Try.pinned (OpenSpec.ofChange fnExactCageRulesSpec)

/-- ITS FALSE NEIGHBOUR: 'it returns false'. Refute it at one input. -/
def fnExactCageRulesWrong : ChangeSpec := { name := "fnExactCageRules", fn := fun _ => fun
  | [d1, d2, d3, d4] => { results := [.lit (.bool false)], args := [d1, d2, d3, d4] }
  | _ => none }
def FnExactCageRulesWrongFalsely : Prop := fnExactCageRulesRow.holds Try.pinned (OpenSpec.ofChange fnExactCageRulesWrong)

/- THE SECOND FORM. 'bulk': how many values and letters a reading holds, each counted each time it is reached (what is shared counts as often as it is met; a slice's spare places count too). A statement '..UptoSaid' is the law's where the arguments, and the package variables that the reading takes, are together of bulk at most 1048576: NARROWER than '..Said'. Prove '..Said' where nothing that the law and all that it calls make is longer than what came in: it says more and counts as full. Else prove '..UptoSaid'. A law counts once. -/
mutual
def uptoBulk {H : Type} : DataW H → Nat
  | .lit (.string bytes) => bytes.length + 1
  | .lit _ => 1
  | .nil => 1
  | .ptr d => uptoBulk d + 1
  | .slice elems spare => uptoBulkAll elems + uptoBulkAll spare + 1
  | .agg parts => uptoBulkAll parts + 1
  | .iface _ d => uptoBulk d + 1
  | .map entries => uptoBulkEntries entries + 1
  | .held _ => 1
def uptoBulkAll {H : Type} : List (DataW H) → Nat
  | [] => 0
  | d :: r => uptoBulk d + uptoBulkAll r
def uptoBulkEntries {H : Type} : List (Lit × DataW H) → Nat
  | [] => 0
  | x :: r => uptoBulkEntry x + uptoBulkEntries r
def uptoBulkEntry {H : Type} : Lit × DataW H → Nat
  | (.string bytes, d) => bytes.length + uptoBulk d + 1
  | (_, d) => uptoBulk d + 1
 end
def uptoSmall : (H : Type) → List (DataW H) → Bool := fun _ ds => decide (uptoBulkAll ds ≤ 1048576)
def OpenSpec.upto (s : _root_.Go.ChangeSpec) : _root_.Go.OpenSpec := { _root_.Go.OpenSpec.ofChange s with cond := some uptoSmall }

/-- 'laws.FnExactLoopAround', WHERE WHAT IT READS IS OF BULK AT MOST 1048576: true; the input reads as it did. -/
def fnExactLoopAroundUptoRow : OpenClaim := { program := "ytncmneliinbjdaa", sum := "9aae44df8c4af6fa48cefd2d64344b7e8891994dd0661415927c444e94ce23de", func := "loop.example/gridpuzzles/laws.FnExactLoopAround", spec := "fnExactLoopAround", unfollowed := true, recurses := true, apart := false, narrowed := true }
def FnExactLoopAroundUptoSaid : Prop := fnExactLoopAroundUptoRow.holds Try.pinned (OpenSpec.upto fnExactLoopAroundSpec)

/-- 'laws.FnExactLoopClues', WHERE WHAT IT READS IS OF BULK AT MOST 1048576: true; the input reads as it did. -/
def fnExactLoopCluesUptoRow : OpenClaim := { program := "ytncmneliinbjdaa", sum := "9aae44df8c4af6fa48cefd2d64344b7e8891994dd0661415927c444e94ce23de", func := "loop.example/gridpuzzles/laws.FnExactLoopClues", spec := "fnExactLoopClues", apart := false, narrowed := true }
def FnExactLoopCluesUptoSaid : Prop := fnExactLoopCluesUptoRow.holds Try.pinned (OpenSpec.upto fnExactLoopCluesSpec)

/-- 'laws.FnExactLoopInside', WHERE WHAT IT READS IS OF BULK AT MOST 1048576: true; the input reads as it did. -/
def fnExactLoopInsideUptoRow : OpenClaim := { program := "ytncmneliinbjdaa", sum := "9aae44df8c4af6fa48cefd2d64344b7e8891994dd0661415927c444e94ce23de", func := "loop.example/gridpuzzles/laws.FnExactLoopInside", spec := "fnExactLoopInside", unfollowed := true, recurses := true, apart := false, narrowed := true }
def FnExactLoopInsideUptoSaid : Prop := fnExactLoopInsideUptoRow.holds Try.pinned (OpenSpec.upto fnExactLoopInsideSpec)

/-- 'laws.FnExactRegionRules', WHERE WHAT IT READS IS OF BULK AT MOST 1048576: true; the input reads as it did. -/
def fnExactRegionRulesUptoRow : OpenClaim := { program := "ytncmneliinbjdaa", sum := "9aae44df8c4af6fa48cefd2d64344b7e8891994dd0661415927c444e94ce23de", func := "loop.example/gridpuzzles/laws.FnExactRegionRules", spec := "fnExactRegionRules", apart := false, narrowed := true }
def FnExactRegionRulesUptoSaid : Prop := fnExactRegionRulesUptoRow.holds Try.pinned (OpenSpec.upto fnExactRegionRulesSpec)

/-- 'laws.FnExactApartRules', WHERE WHAT IT READS IS OF BULK AT MOST 1048576: true; the input reads as it did. -/
def fnExactApartRulesUptoRow : OpenClaim := { program := "ytncmneliinbjdaa", sum := "9aae44df8c4af6fa48cefd2d64344b7e8891994dd0661415927c444e94ce23de", func := "loop.example/gridpuzzles/laws.FnExactApartRules", spec := "fnExactApartRules", apart := false, narrowed := true }
def FnExactApartRulesUptoSaid : Prop := fnExactApartRulesUptoRow.holds Try.pinned (OpenSpec.upto fnExactApartRulesSpec)

/-- 'laws.FnExactLessRules', WHERE WHAT IT READS IS OF BULK AT MOST 1048576: true; the input reads as it did. -/
def fnExactLessRulesUptoRow : OpenClaim := { program := "ytncmneliinbjdaa", sum := "9aae44df8c4af6fa48cefd2d64344b7e8891994dd0661415927c444e94ce23de", func := "loop.example/gridpuzzles/laws.FnExactLessRules", spec := "fnExactLessRules", apart := false, narrowed := true }
def FnExactLessRulesUptoSaid : Prop := fnExactLessRulesUptoRow.holds Try.pinned (OpenSpec.upto fnExactLessRulesSpec)

/-- 'laws.FnExactCageRules', WHERE WHAT IT READS IS OF BULK AT MOST 1048576: true; the input reads as it did. -/
def fnExactCageRulesUptoRow : OpenClaim := { program := "ytncmneliinbjdaa", sum := "9aae44df8c4af6fa48cefd2d64344b7e8891994dd0661415927c444e94ce23de", func := "loop.example/gridpuzzles/laws.FnExactCageRules", spec := "fnExactCageRules", apart := false, narrowed := true }
def FnExactCageRulesUptoSaid : Prop := fnExactCageRulesUptoRow.holds Try.pinned (OpenSpec.upto fnExactCageRulesSpec)

end Rows
end Go.Proofs.Ytncmneliinbjdaa
