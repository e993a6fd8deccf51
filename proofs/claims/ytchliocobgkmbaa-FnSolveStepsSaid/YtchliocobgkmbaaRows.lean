/-
  No cell of these rows narrows 'for every input' (looked for: loops, veiled, ifaces, maps, wideKeys, modest, calm, conditions, laid).
  DERIVED. THE GIVEN ROWS OF THIS SEAT. 10 by the template 'for every input the law returns true; each argument reads behind the call as it read before'; 0 by the template 'total and deterministic' (their statements: YtchliocobgkmbaaTotals.lean).
  GIVEN WITH THE SEED: the statements are not yours to turn. If you find one false, say at which input.
  Laid BY PROGRAM, IN A SANDBOX (cutbox-rows.mjs): the forced cells as the released guide's own fill.sh prints them over the translation 1f9113883c370daa… (all of the seat's roots in one cut). By AI agents, Wed Nov 11 2026. No macro, syntax, notation, axiom, sorry.
-/
import Derived.Test.YtchliocobgkmbaaChecked
import GoSem.Claim
import GoSem.ClaimJoined
import GoSem.ClaimMapViews
import Derived.JoinedTies
import Derived.KernelRfl
namespace Go.Proofs.Ytchliocobgkmbaa
/- THE CELL 'sum', in the pinned program and in every row, IS THE sha256 OF THE DUMP (.gsa) THAT YtchliocobgkmbaaProg.lean LOADS. Nothing in Lean hashes anything: it is a label: what it is worth is what the hold of that sum in a sandbox is worth. -/
noncomputable def Try.pinned : Pinned := { name := "ytchliocobgkmbaa", sum := "1f9113883c370daa709a7ad38cc2beb8cea505ec67d7df89c84194a19b5b54c5", checked := Try.checked }
namespace Rows
def none {H : Type} : Left H := { results := [], args := [] }

/-- 'laws.FnMakeEven': WHATEVER THE INPUT: true; the input reads as it did. -/
def fnMakeEvenSpec : ChangeSpec := { name := "fnMakeEven", fn := fun _ => fun
  | [d] => { results := [.lit (.bool true)], args := [d] }
  | _ => none }
def fnMakeEvenRow : OpenClaim := { program := "ytchliocobgkmbaa", sum := "1f9113883c370daa709a7ad38cc2beb8cea505ec67d7df89c84194a19b5b54c5", func := "loop.example/gridpuzzles/laws.FnMakeEven", spec := "fnMakeEven", unfollowed := true, recurses := true, apart := false }
def FnMakeEvenSaid : Prop := fnMakeEvenRow.holds Try.pinned (OpenSpec.ofChange fnMakeEvenSpec)

/-- ITS FALSE NEIGHBOUR: 'it returns false'. Refute it at one input. -/
def fnMakeEvenWrong : ChangeSpec := { name := "fnMakeEven", fn := fun _ => fun
  | [d] => { results := [.lit (.bool false)], args := [d] }
  | _ => none }
def FnMakeEvenWrongFalsely : Prop := fnMakeEvenRow.holds Try.pinned (OpenSpec.ofChange fnMakeEvenWrong)

/-- 'laws.FnEvenMinimal': WHATEVER THE INPUT: true; the input reads as it did. -/
def fnEvenMinimalSpec : ChangeSpec := { name := "fnEvenMinimal", fn := fun _ => fun
  | [d] => { results := [.lit (.bool true)], args := [d] }
  | _ => none }
def fnEvenMinimalRow : OpenClaim := { program := "ytchliocobgkmbaa", sum := "1f9113883c370daa709a7ad38cc2beb8cea505ec67d7df89c84194a19b5b54c5", func := "loop.example/gridpuzzles/laws.FnEvenMinimal", spec := "fnEvenMinimal", unfollowed := true, recurses := true, apart := false }
def FnEvenMinimalSaid : Prop := fnEvenMinimalRow.holds Try.pinned (OpenSpec.ofChange fnEvenMinimalSpec)

/-- ITS FALSE NEIGHBOUR: 'it returns false'. Refute it at one input. -/
def fnEvenMinimalWrong : ChangeSpec := { name := "fnEvenMinimal", fn := fun _ => fun
  | [d] => { results := [.lit (.bool false)], args := [d] }
  | _ => none }
def FnEvenMinimalWrongFalsely : Prop := fnEvenMinimalRow.holds Try.pinned (OpenSpec.ofChange fnEvenMinimalWrong)

/-- 'laws.FnNarrowRules': WHATEVER THE INPUT: true; the input reads as it did. -/
def fnNarrowRulesSpec : ChangeSpec := { name := "fnNarrowRules", fn := fun _ => fun
  | [d] => { results := [.lit (.bool true)], args := [d] }
  | _ => none }
def fnNarrowRulesRow : OpenClaim := { program := "ytchliocobgkmbaa", sum := "1f9113883c370daa709a7ad38cc2beb8cea505ec67d7df89c84194a19b5b54c5", func := "loop.example/gridpuzzles/laws.FnNarrowRules", spec := "fnNarrowRules", unfollowed := true, recurses := true, apart := false }
def FnNarrowRulesSaid : Prop := fnNarrowRulesRow.holds Try.pinned (OpenSpec.ofChange fnNarrowRulesSpec)

/-- ITS FALSE NEIGHBOUR: 'it returns false'. Refute it at one input. -/
def fnNarrowRulesWrong : ChangeSpec := { name := "fnNarrowRules", fn := fun _ => fun
  | [d] => { results := [.lit (.bool false)], args := [d] }
  | _ => none }
def FnNarrowRulesWrongFalsely : Prop := fnNarrowRulesRow.holds Try.pinned (OpenSpec.ofChange fnNarrowRulesWrong)

/-- 'laws.FnHiddenLines': WHATEVER THE INPUT: true; the input reads as it did. -/
def fnHiddenLinesSpec : ChangeSpec := { name := "fnHiddenLines", fn := fun _ => fun
  | [d] => { results := [.lit (.bool true)], args := [d] }
  | _ => none }
def fnHiddenLinesRow : OpenClaim := { program := "ytchliocobgkmbaa", sum := "1f9113883c370daa709a7ad38cc2beb8cea505ec67d7df89c84194a19b5b54c5", func := "loop.example/gridpuzzles/laws.FnHiddenLines", spec := "fnHiddenLines", unfollowed := true, recurses := true, apart := false }
def FnHiddenLinesSaid : Prop := fnHiddenLinesRow.holds Try.pinned (OpenSpec.ofChange fnHiddenLinesSpec)

/-- ITS FALSE NEIGHBOUR: 'it returns false'. Refute it at one input. -/
def fnHiddenLinesWrong : ChangeSpec := { name := "fnHiddenLines", fn := fun _ => fun
  | [d] => { results := [.lit (.bool false)], args := [d] }
  | _ => none }
def FnHiddenLinesWrongFalsely : Prop := fnHiddenLinesRow.holds Try.pinned (OpenSpec.ofChange fnHiddenLinesWrong)

/-- 'laws.FnSolveSteps': WHATEVER THE INPUT: true; the input reads as it did. -/
def fnSolveStepsSpec : ChangeSpec := { name := "fnSolveSteps", fn := fun _ => fun
  | [d] => { results := [.lit (.bool true)], args := [d] }
  | _ => none }
def fnSolveStepsRow : OpenClaim := { program := "ytchliocobgkmbaa", sum := "1f9113883c370daa709a7ad38cc2beb8cea505ec67d7df89c84194a19b5b54c5", func := "loop.example/gridpuzzles/laws.FnSolveSteps", spec := "fnSolveSteps", unfollowed := true, recurses := true, apart := false }
def FnSolveStepsSaid : Prop := fnSolveStepsRow.holds Try.pinned (OpenSpec.ofChange fnSolveStepsSpec)

/-- ITS FALSE NEIGHBOUR: 'it returns false'. Refute it at one input. -/
def fnSolveStepsWrong : ChangeSpec := { name := "fnSolveSteps", fn := fun _ => fun
  | [d] => { results := [.lit (.bool false)], args := [d] }
  | _ => none }
def FnSolveStepsWrongFalsely : Prop := fnSolveStepsRow.holds Try.pinned (OpenSpec.ofChange fnSolveStepsWrong)

/-- 'laws.FnTechniqueCounts': WHATEVER THE INPUT: true; the input reads as it did. -/
def fnTechniqueCountsSpec : ChangeSpec := { name := "fnTechniqueCounts", fn := fun _ => fun
  | [d] => { results := [.lit (.bool true)], args := [d] }
  | _ => none }
def fnTechniqueCountsRow : OpenClaim := { program := "ytchliocobgkmbaa", sum := "1f9113883c370daa709a7ad38cc2beb8cea505ec67d7df89c84194a19b5b54c5", func := "loop.example/gridpuzzles/laws.FnTechniqueCounts", spec := "fnTechniqueCounts", unfollowed := true, recurses := true, apart := false }
def FnTechniqueCountsSaid : Prop := fnTechniqueCountsRow.holds Try.pinned (OpenSpec.ofChange fnTechniqueCountsSpec)

/-- ITS FALSE NEIGHBOUR: 'it returns false'. Refute it at one input. -/
def fnTechniqueCountsWrong : ChangeSpec := { name := "fnTechniqueCounts", fn := fun _ => fun
  | [d] => { results := [.lit (.bool false)], args := [d] }
  | _ => none }
def FnTechniqueCountsWrongFalsely : Prop := fnTechniqueCountsRow.holds Try.pinned (OpenSpec.ofChange fnTechniqueCountsWrong)

/-- 'laws.FnNarrowAll': WHATEVER THE INPUT: true; the input reads as it did. -/
def fnNarrowAllSpec : ChangeSpec := { name := "fnNarrowAll", fn := fun _ => fun
  | [d] => { results := [.lit (.bool true)], args := [d] }
  | _ => none }
def fnNarrowAllRow : OpenClaim := { program := "ytchliocobgkmbaa", sum := "1f9113883c370daa709a7ad38cc2beb8cea505ec67d7df89c84194a19b5b54c5", func := "loop.example/gridpuzzles/laws.FnNarrowAll", spec := "fnNarrowAll", unfollowed := true, recurses := true, apart := false }
def FnNarrowAllSaid : Prop := fnNarrowAllRow.holds Try.pinned (OpenSpec.ofChange fnNarrowAllSpec)

/-- ITS FALSE NEIGHBOUR: 'it returns false'. Refute it at one input. -/
def fnNarrowAllWrong : ChangeSpec := { name := "fnNarrowAll", fn := fun _ => fun
  | [d] => { results := [.lit (.bool false)], args := [d] }
  | _ => none }
def FnNarrowAllWrongFalsely : Prop := fnNarrowAllRow.holds Try.pinned (OpenSpec.ofChange fnNarrowAllWrong)

/-- 'laws.FnGradePuzzle': WHATEVER THE INPUT: true; the input reads as it did. -/
def fnGradePuzzleSpec : ChangeSpec := { name := "fnGradePuzzle", fn := fun _ => fun
  | [d] => { results := [.lit (.bool true)], args := [d] }
  | _ => none }
def fnGradePuzzleRow : OpenClaim := { program := "ytchliocobgkmbaa", sum := "1f9113883c370daa709a7ad38cc2beb8cea505ec67d7df89c84194a19b5b54c5", func := "loop.example/gridpuzzles/laws.FnGradePuzzle", spec := "fnGradePuzzle", unfollowed := true, recurses := true, apart := false }
def FnGradePuzzleSaid : Prop := fnGradePuzzleRow.holds Try.pinned (OpenSpec.ofChange fnGradePuzzleSpec)

/-- ITS FALSE NEIGHBOUR: 'it returns false'. Refute it at one input. -/
def fnGradePuzzleWrong : ChangeSpec := { name := "fnGradePuzzle", fn := fun _ => fun
  | [d] => { results := [.lit (.bool false)], args := [d] }
  | _ => none }
def FnGradePuzzleWrongFalsely : Prop := fnGradePuzzleRow.holds Try.pinned (OpenSpec.ofChange fnGradePuzzleWrong)

/-- 'laws.FnNarrowMore': WHATEVER THE INPUT: true; the input reads as it did. -/
def fnNarrowMoreSpec : ChangeSpec := { name := "fnNarrowMore", fn := fun _ => fun
  | [d] => { results := [.lit (.bool true)], args := [d] }
  | _ => none }
def fnNarrowMoreRow : OpenClaim := { program := "ytchliocobgkmbaa", sum := "1f9113883c370daa709a7ad38cc2beb8cea505ec67d7df89c84194a19b5b54c5", func := "loop.example/gridpuzzles/laws.FnNarrowMore", spec := "fnNarrowMore", unfollowed := true, recurses := true, apart := false }
def FnNarrowMoreSaid : Prop := fnNarrowMoreRow.holds Try.pinned (OpenSpec.ofChange fnNarrowMoreSpec)

/-- ITS FALSE NEIGHBOUR: 'it returns false'. Refute it at one input. -/
def fnNarrowMoreWrong : ChangeSpec := { name := "fnNarrowMore", fn := fun _ => fun
  | [d] => { results := [.lit (.bool false)], args := [d] }
  | _ => none }
def FnNarrowMoreWrongFalsely : Prop := fnNarrowMoreRow.holds Try.pinned (OpenSpec.ofChange fnNarrowMoreWrong)

/-- 'laws.FnEasySteps': WHATEVER THE INPUT: true; the input reads as it did. -/
def fnEasyStepsSpec : ChangeSpec := { name := "fnEasySteps", fn := fun _ => fun
  | [d] => { results := [.lit (.bool true)], args := [d] }
  | _ => none }
def fnEasyStepsRow : OpenClaim := { program := "ytchliocobgkmbaa", sum := "1f9113883c370daa709a7ad38cc2beb8cea505ec67d7df89c84194a19b5b54c5", func := "loop.example/gridpuzzles/laws.FnEasySteps", spec := "fnEasySteps", unfollowed := true, recurses := true, apart := false }
def FnEasyStepsSaid : Prop := fnEasyStepsRow.holds Try.pinned (OpenSpec.ofChange fnEasyStepsSpec)

/-- ITS FALSE NEIGHBOUR: 'it returns false'. Refute it at one input. -/
def fnEasyStepsWrong : ChangeSpec := { name := "fnEasySteps", fn := fun _ => fun
  | [d] => { results := [.lit (.bool false)], args := [d] }
  | _ => none }
def FnEasyStepsWrongFalsely : Prop := fnEasyStepsRow.holds Try.pinned (OpenSpec.ofChange fnEasyStepsWrong)

/- THE SECOND FORM. 'bulk': how many values and letters a reading holds, each counted each time it is reached (what is shared counts as often as it is met; a slice's spare places count too). A statement '..UptoSaid' is the law's where the arguments, and the package variables that the reading takes, are together of bulk at most 1048576: NARROWER than '..Said'. Prove '..Said' where nothing that the law and all that it calls make is longer than what came in: it says more and counts as full. Else prove '..UptoSaid'. A law counts once. -/
mutual
def uptoBulk {H : Type} : DataW H → Nat
  | .lit (.string bytes) => bytes.length + 1
  | .lit _ => 1
  | .nil => 1
  | .ptr d => uptoBulk d + 1
  | .slice elems spare => uptoBulkAll elems + uptoBulkAll spare + 1
  | .agg parts => uptoBulkAll parts + 1
  | .iface _ d => uptoBulk d + 1
  | .map entries => uptoBulkEntries entries + 1
  | .held _ => 1
def uptoBulkAll {H : Type} : List (DataW H) → Nat
  | [] => 0
  | d :: r => uptoBulk d + uptoBulkAll r
def uptoBulkEntries {H : Type} : List (Lit × DataW H) → Nat
  | [] => 0
  | x :: r => uptoBulkEntry x + uptoBulkEntries r
def uptoBulkEntry {H : Type} : Lit × DataW H → Nat
  | (.string bytes, d) => bytes.length + uptoBulk d + 1
  | (_, d) => uptoBulk d + 1
 end
def uptoSmall : (H : Type) → List (DataW H) → Bool := fun _ ds => decide (uptoBulkAll ds ≤ 1048576)
def OpenSpec.upto (s : _root_.Go.ChangeSpec) : _root_.Go.OpenSpec := { _root_.Go.OpenSpec.ofChange s with cond := some uptoSmall }

/-- 'laws.FnMakeEven', WHERE WHAT IT READS IS OF BULK AT MOST 1048576: true; the input reads as it did. -/
def fnMakeEvenUptoRow : OpenClaim := { program := "ytchliocobgkmbaa", sum := "1f9113883c370daa709a7ad38cc2beb8cea505ec67d7df89c84194a19b5b54c5", func := "loop.example/gridpuzzles/laws.FnMakeEven", spec := "fnMakeEven", unfollowed := true, recurses := true, apart := false, narrowed := true }
def FnMakeEvenUptoSaid : Prop := fnMakeEvenUptoRow.holds Try.pinned (OpenSpec.upto fnMakeEvenSpec)

/-- 'laws.FnEvenMinimal', WHERE WHAT IT READS IS OF BULK AT MOST 1048576: true; the input reads as it did. -/
def fnEvenMinimalUptoRow : OpenClaim := { program := "ytchliocobgkmbaa", sum := "1f9113883c370daa709a7ad38cc2beb8cea505ec67d7df89c84194a19b5b54c5", func := "loop.example/gridpuzzles/laws.FnEvenMinimal", spec := "fnEvenMinimal", unfollowed := true, recurses := true, apart := false, narrowed := true }
def FnEvenMinimalUptoSaid : Prop := fnEvenMinimalUptoRow.holds Try.pinned (OpenSpec.upto fnEvenMinimalSpec)

/-- 'laws.FnNarrowRules', WHERE WHAT IT READS IS OF BULK AT MOST 1048576: true; the input reads as it did. -/
def fnNarrowRulesUptoRow : OpenClaim := { program := "ytchliocobgkmbaa", sum := "1f9113883c370daa709a7ad38cc2beb8cea505ec67d7df89c84194a19b5b54c5", func := "loop.example/gridpuzzles/laws.FnNarrowRules", spec := "fnNarrowRules", unfollowed := true, recurses := true, apart := false, narrowed := true }
def FnNarrowRulesUptoSaid : Prop := fnNarrowRulesUptoRow.holds Try.pinned (OpenSpec.upto fnNarrowRulesSpec)

/-- 'laws.FnHiddenLines', WHERE WHAT IT READS IS OF BULK AT MOST 1048576: true; the input reads as it did. -/
def fnHiddenLinesUptoRow : OpenClaim := { program := "ytchliocobgkmbaa", sum := "1f9113883c370daa709a7ad38cc2beb8cea505ec67d7df89c84194a19b5b54c5", func := "loop.example/gridpuzzles/laws.FnHiddenLines", spec := "fnHiddenLines", unfollowed := true, recurses := true, apart := false, narrowed := true }
def FnHiddenLinesUptoSaid : Prop := fnHiddenLinesUptoRow.holds Try.pinned (OpenSpec.upto fnHiddenLinesSpec)

/-- 'laws.FnSolveSteps', WHERE WHAT IT READS IS OF BULK AT MOST 1048576: true; the input reads as it did. -/
def fnSolveStepsUptoRow : OpenClaim := { program := "ytchliocobgkmbaa", sum := "1f9113883c370daa709a7ad38cc2beb8cea505ec67d7df89c84194a19b5b54c5", func := "loop.example/gridpuzzles/laws.FnSolveSteps", spec := "fnSolveSteps", unfollowed := true, recurses := true, apart := false, narrowed := true }
def FnSolveStepsUptoSaid : Prop := fnSolveStepsUptoRow.holds Try.pinned (OpenSpec.upto fnSolveStepsSpec)

/-- 'laws.FnTechniqueCounts', WHERE WHAT IT READS IS OF BULK AT MOST 1048576: true; the input reads as it did. -/
def fnTechniqueCountsUptoRow : OpenClaim := { program := "ytchliocobgkmbaa", sum := "1f9113883c370daa709a7ad38cc2beb8cea505ec67d7df89c84194a19b5b54c5", func := "loop.example/gridpuzzles/laws.FnTechniqueCounts", spec := "fnTechniqueCounts", unfollowed := true, recurses := true, apart := false, narrowed := true }
def FnTechniqueCountsUptoSaid : Prop := fnTechniqueCountsUptoRow.holds Try.pinned (OpenSpec.upto fnTechniqueCountsSpec)

/-- 'laws.FnNarrowAll', WHERE WHAT IT READS IS OF BULK AT MOST 1048576: true; the input reads as it did. -/
def fnNarrowAllUptoRow : OpenClaim := { program := "ytchliocobgkmbaa", sum := "1f9113883c370daa709a7ad38cc2beb8cea505ec67d7df89c84194a19b5b54c5", func := "loop.example/gridpuzzles/laws.FnNarrowAll", spec := "fnNarrowAll", unfollowed := true, recurses := true, apart := false, narrowed := true }
def FnNarrowAllUptoSaid : Prop := fnNarrowAllUptoRow.holds Try.pinned (OpenSpec.upto fnNarrowAllSpec)

/-- 'laws.FnGradePuzzle', WHERE WHAT IT READS IS OF BULK AT MOST 1048576: true; the input reads as it did. -/
def fnGradePuzzleUptoRow : OpenClaim := { program := "ytchliocobgkmbaa", sum := "1f9113883c370daa709a7ad38cc2beb8cea505ec67d7df89c84194a19b5b54c5", func := "loop.example/gridpuzzles/laws.FnGradePuzzle", spec := "fnGradePuzzle", unfollowed := true, recurses := true, apart := false, narrowed := true }
def FnGradePuzzleUptoSaid : Prop := fnGradePuzzleUptoRow.holds Try.pinned (OpenSpec.upto fnGradePuzzleSpec)

/-- 'laws.FnNarrowMore', WHERE WHAT IT READS IS OF BULK AT MOST 1048576: true; the input reads as it did. -/
def fnNarrowMoreUptoRow : OpenClaim := { program := "ytchliocobgkmbaa", sum := "1f9113883c370daa709a7ad38cc2beb8cea505ec67d7df89c84194a19b5b54c5", func := "loop.example/gridpuzzles/laws.FnNarrowMore", spec := "fnNarrowMore", unfollowed := true, recurses := true, apart := false, narrowed := true }
def FnNarrowMoreUptoSaid : Prop := fnNarrowMoreUptoRow.holds Try.pinned (OpenSpec.upto fnNarrowMoreSpec)

/-- 'laws.FnEasySteps', WHERE WHAT IT READS IS OF BULK AT MOST 1048576: true; the input reads as it did. -/
def fnEasyStepsUptoRow : OpenClaim := { program := "ytchliocobgkmbaa", sum := "1f9113883c370daa709a7ad38cc2beb8cea505ec67d7df89c84194a19b5b54c5", func := "loop.example/gridpuzzles/laws.FnEasySteps", spec := "fnEasySteps", unfollowed := true, recurses := true, apart := false, narrowed := true }
def FnEasyStepsUptoSaid : Prop := fnEasyStepsUptoRow.holds Try.pinned (OpenSpec.upto fnEasyStepsSpec)

end Rows
end Go.Proofs.Ytchliocobgkmbaa
