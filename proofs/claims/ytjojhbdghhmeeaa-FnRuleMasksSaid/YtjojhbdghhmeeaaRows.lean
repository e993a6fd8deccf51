/-
  No cell of these rows narrows 'for every input' (looked for: loops, veiled, ifaces, maps, wideKeys, modest, calm, conditions, laid).
  DERIVED. THE GIVEN ROWS OF THIS SEAT. 15 by the template 'for every input the law returns true; each argument reads behind the call as it read before'; 0 by the template 'total and deterministic' (their statements: YtjojhbdghhmeeaaTotals.lean).
  GIVEN WITH THE SEED: the statements are not yours to turn. If you find one false, say at which input.
  Laid BY PROGRAM, IN A SANDBOX (cutbox-rows.mjs): the forced cells as the released guide's own fill.sh prints them over the translation 837f68c90fac4601… (all of the seat's roots in one cut). By AI agents, Wed Nov 11 2026. No macro, syntax, notation, axiom, sorry.
-/
import Derived.Test.YtjojhbdghhmeeaaChecked
import GoSem.Claim
import GoSem.ClaimJoined
import GoSem.ClaimMapViews
import Derived.JoinedTies
import Derived.KernelRfl
namespace Go.Proofs.Ytjojhbdghhmeeaa
/- THE CELL 'sum', in the pinned program and in every row, IS THE sha256 OF THE DUMP (.gsa) THAT YtjojhbdghhmeeaaProg.lean LOADS. Nothing in Lean hashes anything: it is a label: what it is worth is what the hold of that sum in a sandbox is worth. -/
noncomputable def Try.pinned : Pinned := { name := "ytjojhbdghhmeeaa", sum := "837f68c90fac46016184c07bf5c2bcac3cfffeb16679474c6cbc54c12cff7f58", checked := Try.checked }
namespace Rows
def none {H : Type} : Left H := { results := [], args := [] }

/-- 'laws.FnPuzzleValid': WHATEVER THE INPUT: true; the input reads as it did. -/
def fnPuzzleValidSpec : ChangeSpec := { name := "fnPuzzleValid", fn := fun _ => fun
  | [d] => { results := [.lit (.bool true)], args := [d] }
  | _ => none }
def fnPuzzleValidRow : OpenClaim := { program := "ytjojhbdghhmeeaa", sum := "837f68c90fac46016184c07bf5c2bcac3cfffeb16679474c6cbc54c12cff7f58", func := "loop.example/gridpuzzles/laws.FnPuzzleValid", spec := "fnPuzzleValid", recurses := true, apart := false }
def FnPuzzleValidSaid : Prop := fnPuzzleValidRow.holds Try.pinned (OpenSpec.ofChange fnPuzzleValidSpec)

/-- ITS FALSE NEIGHBOUR: 'it returns false'. Refute it at one input. -/
def fnPuzzleValidWrong : ChangeSpec := { name := "fnPuzzleValid", fn := fun _ => fun
  | [d] => { results := [.lit (.bool false)], args := [d] }
  | _ => none }
def FnPuzzleValidWrongFalsely : Prop := fnPuzzleValidRow.holds Try.pinned (OpenSpec.ofChange fnPuzzleValidWrong)

/-- 'laws.FnMasksValid': WHATEVER THE INPUT: true; the input reads as it did. -/
def fnMasksValidSpec : ChangeSpec := { name := "fnMasksValid", fn := fun _ => fun
  | [d] => { results := [.lit (.bool true)], args := [d] }
  | _ => none }
def fnMasksValidRow : OpenClaim := { program := "ytjojhbdghhmeeaa", sum := "837f68c90fac46016184c07bf5c2bcac3cfffeb16679474c6cbc54c12cff7f58", func := "loop.example/gridpuzzles/laws.FnMasksValid", spec := "fnMasksValid", recurses := true, apart := false }
def FnMasksValidSaid : Prop := fnMasksValidRow.holds Try.pinned (OpenSpec.ofChange fnMasksValidSpec)

/-- ITS FALSE NEIGHBOUR: 'it returns false'. Refute it at one input. -/
def fnMasksValidWrong : ChangeSpec := { name := "fnMasksValid", fn := fun _ => fun
  | [d] => { results := [.lit (.bool false)], args := [d] }
  | _ => none }
def FnMasksValidWrongFalsely : Prop := fnMasksValidRow.holds Try.pinned (OpenSpec.ofChange fnMasksValidWrong)

/-- 'laws.FnMasksHave': WHATEVER THE INPUT: true; the input reads as it did. -/
def fnMasksHaveSpec : ChangeSpec := { name := "fnMasksHave", fn := fun _ => fun
  | [d] => { results := [.lit (.bool true)], args := [d] }
  | _ => none }
def fnMasksHaveRow : OpenClaim := { program := "ytjojhbdghhmeeaa", sum := "837f68c90fac46016184c07bf5c2bcac3cfffeb16679474c6cbc54c12cff7f58", func := "loop.example/gridpuzzles/laws.FnMasksHave", spec := "fnMasksHave", recurses := true, apart := false }
def FnMasksHaveSaid : Prop := fnMasksHaveRow.holds Try.pinned (OpenSpec.ofChange fnMasksHaveSpec)

/-- ITS FALSE NEIGHBOUR: 'it returns false'. Refute it at one input. -/
def fnMasksHaveWrong : ChangeSpec := { name := "fnMasksHave", fn := fun _ => fun
  | [d] => { results := [.lit (.bool false)], args := [d] }
  | _ => none }
def FnMasksHaveWrongFalsely : Prop := fnMasksHaveRow.holds Try.pinned (OpenSpec.ofChange fnMasksHaveWrong)

/-- 'laws.FnMasksGrid': WHATEVER THE INPUT: true; the input reads as it did. -/
def fnMasksGridSpec : ChangeSpec := { name := "fnMasksGrid", fn := fun _ => fun
  | [d] => { results := [.lit (.bool true)], args := [d] }
  | _ => none }
def fnMasksGridRow : OpenClaim := { program := "ytjojhbdghhmeeaa", sum := "837f68c90fac46016184c07bf5c2bcac3cfffeb16679474c6cbc54c12cff7f58", func := "loop.example/gridpuzzles/laws.FnMasksGrid", spec := "fnMasksGrid", recurses := true, apart := false }
def FnMasksGridSaid : Prop := fnMasksGridRow.holds Try.pinned (OpenSpec.ofChange fnMasksGridSpec)

/-- ITS FALSE NEIGHBOUR: 'it returns false'. Refute it at one input. -/
def fnMasksGridWrong : ChangeSpec := { name := "fnMasksGrid", fn := fun _ => fun
  | [d] => { results := [.lit (.bool false)], args := [d] }
  | _ => none }
def FnMasksGridWrongFalsely : Prop := fnMasksGridRow.holds Try.pinned (OpenSpec.ofChange fnMasksGridWrong)

/-- 'laws.FnNarrowSingles': WHATEVER THE INPUT: true; the input reads as it did. -/
def fnNarrowSinglesSpec : ChangeSpec := { name := "fnNarrowSingles", fn := fun _ => fun
  | [d] => { results := [.lit (.bool true)], args := [d] }
  | _ => none }
def fnNarrowSinglesRow : OpenClaim := { program := "ytjojhbdghhmeeaa", sum := "837f68c90fac46016184c07bf5c2bcac3cfffeb16679474c6cbc54c12cff7f58", func := "loop.example/gridpuzzles/laws.FnNarrowSingles", spec := "fnNarrowSingles", recurses := true, apart := false }
def FnNarrowSinglesSaid : Prop := fnNarrowSinglesRow.holds Try.pinned (OpenSpec.ofChange fnNarrowSinglesSpec)

/-- ITS FALSE NEIGHBOUR: 'it returns false'. Refute it at one input. -/
def fnNarrowSinglesWrong : ChangeSpec := { name := "fnNarrowSingles", fn := fun _ => fun
  | [d] => { results := [.lit (.bool false)], args := [d] }
  | _ => none }
def FnNarrowSinglesWrongFalsely : Prop := fnNarrowSinglesRow.holds Try.pinned (OpenSpec.ofChange fnNarrowSinglesWrong)

/-- 'laws.FnPairsIn': WHATEVER THE INPUT: true; the input reads as it did. -/
def fnPairsInSpec : ChangeSpec := { name := "fnPairsIn", fn := fun _ => fun
  | [d] => { results := [.lit (.bool true)], args := [d] }
  | _ => none }
def fnPairsInRow : OpenClaim := { program := "ytjojhbdghhmeeaa", sum := "837f68c90fac46016184c07bf5c2bcac3cfffeb16679474c6cbc54c12cff7f58", func := "loop.example/gridpuzzles/laws.FnPairsIn", spec := "fnPairsIn", recurses := true, apart := false }
def FnPairsInSaid : Prop := fnPairsInRow.holds Try.pinned (OpenSpec.ofChange fnPairsInSpec)

/-- ITS FALSE NEIGHBOUR: 'it returns false'. Refute it at one input. -/
def fnPairsInWrong : ChangeSpec := { name := "fnPairsIn", fn := fun _ => fun
  | [d] => { results := [.lit (.bool false)], args := [d] }
  | _ => none }
def FnPairsInWrongFalsely : Prop := fnPairsInRow.holds Try.pinned (OpenSpec.ofChange fnPairsInWrong)

/-- 'laws.FnMasksCount': WHATEVER THE INPUT: true; the input reads as it did. -/
def fnMasksCountSpec : ChangeSpec := { name := "fnMasksCount", fn := fun _ => fun
  | [d] => { results := [.lit (.bool true)], args := [d] }
  | _ => none }
def fnMasksCountRow : OpenClaim := { program := "ytjojhbdghhmeeaa", sum := "837f68c90fac46016184c07bf5c2bcac3cfffeb16679474c6cbc54c12cff7f58", func := "loop.example/gridpuzzles/laws.FnMasksCount", spec := "fnMasksCount", recurses := true, apart := false }
def FnMasksCountSaid : Prop := fnMasksCountRow.holds Try.pinned (OpenSpec.ofChange fnMasksCountSpec)

/-- ITS FALSE NEIGHBOUR: 'it returns false'. Refute it at one input. -/
def fnMasksCountWrong : ChangeSpec := { name := "fnMasksCount", fn := fun _ => fun
  | [d] => { results := [.lit (.bool false)], args := [d] }
  | _ => none }
def FnMasksCountWrongFalsely : Prop := fnMasksCountRow.holds Try.pinned (OpenSpec.ofChange fnMasksCountWrong)

/-- 'laws.FnNarrowHidden': WHATEVER THE INPUT: true; the input reads as it did. -/
def fnNarrowHiddenSpec : ChangeSpec := { name := "fnNarrowHidden", fn := fun _ => fun
  | [d] => { results := [.lit (.bool true)], args := [d] }
  | _ => none }
def fnNarrowHiddenRow : OpenClaim := { program := "ytjojhbdghhmeeaa", sum := "837f68c90fac46016184c07bf5c2bcac3cfffeb16679474c6cbc54c12cff7f58", func := "loop.example/gridpuzzles/laws.FnNarrowHidden", spec := "fnNarrowHidden", recurses := true, apart := false }
def FnNarrowHiddenSaid : Prop := fnNarrowHiddenRow.holds Try.pinned (OpenSpec.ofChange fnNarrowHiddenSpec)

/-- ITS FALSE NEIGHBOUR: 'it returns false'. Refute it at one input. -/
def fnNarrowHiddenWrong : ChangeSpec := { name := "fnNarrowHidden", fn := fun _ => fun
  | [d] => { results := [.lit (.bool false)], args := [d] }
  | _ => none }
def FnNarrowHiddenWrongFalsely : Prop := fnNarrowHiddenRow.holds Try.pinned (OpenSpec.ofChange fnNarrowHiddenWrong)

/-- 'laws.FnNarrowPairs': WHATEVER THE INPUT: true; the input reads as it did. -/
def fnNarrowPairsSpec : ChangeSpec := { name := "fnNarrowPairs", fn := fun _ => fun
  | [d] => { results := [.lit (.bool true)], args := [d] }
  | _ => none }
def fnNarrowPairsRow : OpenClaim := { program := "ytjojhbdghhmeeaa", sum := "837f68c90fac46016184c07bf5c2bcac3cfffeb16679474c6cbc54c12cff7f58", func := "loop.example/gridpuzzles/laws.FnNarrowPairs", spec := "fnNarrowPairs", recurses := true, apart := false }
def FnNarrowPairsSaid : Prop := fnNarrowPairsRow.holds Try.pinned (OpenSpec.ofChange fnNarrowPairsSpec)

/-- ITS FALSE NEIGHBOUR: 'it returns false'. Refute it at one input. -/
def fnNarrowPairsWrong : ChangeSpec := { name := "fnNarrowPairs", fn := fun _ => fun
  | [d] => { results := [.lit (.bool false)], args := [d] }
  | _ => none }
def FnNarrowPairsWrongFalsely : Prop := fnNarrowPairsRow.holds Try.pinned (OpenSpec.ofChange fnNarrowPairsWrong)

/-- 'laws.FnNarrowCandidates': WHATEVER THE INPUT: true; the input reads as it did. -/
def fnNarrowCandidatesSpec : ChangeSpec := { name := "fnNarrowCandidates", fn := fun _ => fun
  | [d] => { results := [.lit (.bool true)], args := [d] }
  | _ => none }
def fnNarrowCandidatesRow : OpenClaim := { program := "ytjojhbdghhmeeaa", sum := "837f68c90fac46016184c07bf5c2bcac3cfffeb16679474c6cbc54c12cff7f58", func := "loop.example/gridpuzzles/laws.FnNarrowCandidates", spec := "fnNarrowCandidates", recurses := true, apart := false }
def FnNarrowCandidatesSaid : Prop := fnNarrowCandidatesRow.holds Try.pinned (OpenSpec.ofChange fnNarrowCandidatesSpec)

/-- ITS FALSE NEIGHBOUR: 'it returns false'. Refute it at one input. -/
def fnNarrowCandidatesWrong : ChangeSpec := { name := "fnNarrowCandidates", fn := fun _ => fun
  | [d] => { results := [.lit (.bool false)], args := [d] }
  | _ => none }
def FnNarrowCandidatesWrongFalsely : Prop := fnNarrowCandidatesRow.holds Try.pinned (OpenSpec.ofChange fnNarrowCandidatesWrong)

/-- 'laws.FnPuzzleFits': WHATEVER THE INPUT: true; the input reads as it did. -/
def fnPuzzleFitsSpec : ChangeSpec := { name := "fnPuzzleFits", fn := fun _ => fun
  | [d] => { results := [.lit (.bool true)], args := [d] }
  | _ => none }
def fnPuzzleFitsRow : OpenClaim := { program := "ytjojhbdghhmeeaa", sum := "837f68c90fac46016184c07bf5c2bcac3cfffeb16679474c6cbc54c12cff7f58", func := "loop.example/gridpuzzles/laws.FnPuzzleFits", spec := "fnPuzzleFits", unfollowed := true, recurses := true, apart := false }
def FnPuzzleFitsSaid : Prop := fnPuzzleFitsRow.holds Try.pinned (OpenSpec.ofChange fnPuzzleFitsSpec)

/-- ITS FALSE NEIGHBOUR: 'it returns false'. Refute it at one input. -/
def fnPuzzleFitsWrong : ChangeSpec := { name := "fnPuzzleFits", fn := fun _ => fun
  | [d] => { results := [.lit (.bool false)], args := [d] }
  | _ => none }
def FnPuzzleFitsWrongFalsely : Prop := fnPuzzleFitsRow.holds Try.pinned (OpenSpec.ofChange fnPuzzleFitsWrong)

/-- 'laws.FnPuzzleSolved': WHATEVER THE INPUT: true; the input reads as it did. -/
def fnPuzzleSolvedSpec : ChangeSpec := { name := "fnPuzzleSolved", fn := fun _ => fun
  | [d] => { results := [.lit (.bool true)], args := [d] }
  | _ => none }
def fnPuzzleSolvedRow : OpenClaim := { program := "ytjojhbdghhmeeaa", sum := "837f68c90fac46016184c07bf5c2bcac3cfffeb16679474c6cbc54c12cff7f58", func := "loop.example/gridpuzzles/laws.FnPuzzleSolved", spec := "fnPuzzleSolved", unfollowed := true, recurses := true, apart := false }
def FnPuzzleSolvedSaid : Prop := fnPuzzleSolvedRow.holds Try.pinned (OpenSpec.ofChange fnPuzzleSolvedSpec)

/-- ITS FALSE NEIGHBOUR: 'it returns false'. Refute it at one input. -/
def fnPuzzleSolvedWrong : ChangeSpec := { name := "fnPuzzleSolved", fn := fun _ => fun
  | [d] => { results := [.lit (.bool false)], args := [d] }
  | _ => none }
def FnPuzzleSolvedWrongFalsely : Prop := fnPuzzleSolvedRow.holds Try.pinned (OpenSpec.ofChange fnPuzzleSolvedWrong)

/-- 'laws.FnRuleMasks': WHATEVER THE INPUT: true; the input reads as it did. -/
def fnRuleMasksSpec : ChangeSpec := { name := "fnRuleMasks", fn := fun _ => fun
  | [d] => { results := [.lit (.bool true)], args := [d] }
  | _ => none }
def fnRuleMasksRow : OpenClaim := { program := "ytjojhbdghhmeeaa", sum := "837f68c90fac46016184c07bf5c2bcac3cfffeb16679474c6cbc54c12cff7f58", func := "loop.example/gridpuzzles/laws.FnRuleMasks", spec := "fnRuleMasks", unfollowed := true, recurses := true, apart := false }
def FnRuleMasksSaid : Prop := fnRuleMasksRow.holds Try.pinned (OpenSpec.ofChange fnRuleMasksSpec)

/-- ITS FALSE NEIGHBOUR: 'it returns false'. Refute it at one input. -/
def fnRuleMasksWrong : ChangeSpec := { name := "fnRuleMasks", fn := fun _ => fun
  | [d] => { results := [.lit (.bool false)], args := [d] }
  | _ => none }
def FnRuleMasksWrongFalsely : Prop := fnRuleMasksRow.holds Try.pinned (OpenSpec.ofChange fnRuleMasksWrong)

/-- 'laws.FnNarrowBy': WHATEVER THE INPUT: true; the input reads as it did. -/
def fnNarrowBySpec : ChangeSpec := { name := "fnNarrowBy", fn := fun _ => fun
  | [d] => { results := [.lit (.bool true)], args := [d] }
  | _ => none }
def fnNarrowByRow : OpenClaim := { program := "ytjojhbdghhmeeaa", sum := "837f68c90fac46016184c07bf5c2bcac3cfffeb16679474c6cbc54c12cff7f58", func := "loop.example/gridpuzzles/laws.FnNarrowBy", spec := "fnNarrowBy", unfollowed := true, recurses := true, apart := false }
def FnNarrowBySaid : Prop := fnNarrowByRow.holds Try.pinned (OpenSpec.ofChange fnNarrowBySpec)

/-- ITS FALSE NEIGHBOUR: 'it returns false'. Refute it at one input. -/
def fnNarrowByWrong : ChangeSpec := { name := "fnNarrowBy", fn := fun _ => fun
  | [d] => { results := [.lit (.bool false)], args := [d] }
  | _ => none }
def FnNarrowByWrongFalsely : Prop := fnNarrowByRow.holds Try.pinned (OpenSpec.ofChange fnNarrowByWrong)

/-- 'laws.FnStepMasks': WHATEVER THE INPUT: true; the input reads as it did. -/
def fnStepMasksSpec : ChangeSpec := { name := "fnStepMasks", fn := fun _ => fun
  | [d] => { results := [.lit (.bool true)], args := [d] }
  | _ => none }
def fnStepMasksRow : OpenClaim := { program := "ytjojhbdghhmeeaa", sum := "837f68c90fac46016184c07bf5c2bcac3cfffeb16679474c6cbc54c12cff7f58", func := "loop.example/gridpuzzles/laws.FnStepMasks", spec := "fnStepMasks", unfollowed := true, recurses := true, apart := false }
def FnStepMasksSaid : Prop := fnStepMasksRow.holds Try.pinned (OpenSpec.ofChange fnStepMasksSpec)

/-- ITS FALSE NEIGHBOUR: 'it returns false'. Refute it at one input. -/
def fnStepMasksWrong : ChangeSpec := { name := "fnStepMasks", fn := fun _ => fun
  | [d] => { results := [.lit (.bool false)], args := [d] }
  | _ => none }
def FnStepMasksWrongFalsely : Prop := fnStepMasksRow.holds Try.pinned (OpenSpec.ofChange fnStepMasksWrong)

/- THE SECOND FORM. 'bulk': how many values and letters a reading holds, each counted each time it is reached (what is shared counts as often as it is met; a slice's spare places count too). A statement '..UptoSaid' is the law's where the arguments, and the package variables that the reading takes, are together of bulk at most 1048576: NARROWER than '..Said'. Prove '..Said' where nothing that the law and all that it calls make is longer than what came in: it says more and counts as full. Else prove '..UptoSaid'. A law counts once. -/
mutual
def uptoBulk {H : Type} : DataW H → Nat
  | .lit (.string bytes) => bytes.length + 1
  | .lit _ => 1
  | .nil => 1
  | .ptr d => uptoBulk d + 1
  | .slice elems spare => uptoBulkAll elems + uptoBulkAll spare + 1
  | .agg parts => uptoBulkAll parts + 1
  | .iface _ d => uptoBulk d + 1
  | .map entries => uptoBulkEntries entries + 1
  | .held _ => 1
def uptoBulkAll {H : Type} : List (DataW H) → Nat
  | [] => 0
  | d :: r => uptoBulk d + uptoBulkAll r
def uptoBulkEntries {H : Type} : List (Lit × DataW H) → Nat
  | [] => 0
  | x :: r => uptoBulkEntry x + uptoBulkEntries r
def uptoBulkEntry {H : Type} : Lit × DataW H → Nat
  | (.string bytes, d) => bytes.length + uptoBulk d + 1
  | (_, d) => uptoBulk d + 1
 end
def uptoSmall : (H : Type) → List (DataW H) → Bool := fun _ ds => decide (uptoBulkAll ds ≤ 1048576)
def OpenSpec.upto (s : _root_.Go.ChangeSpec) : _root_.Go.OpenSpec := { _root_.Go.OpenSpec.ofChange s with cond := some uptoSmall }

/-- 'laws.FnPuzzleValid', WHERE WHAT IT READS IS OF BULK AT MOST 1048576: true; the input reads as it did. -/
def fnPuzzleValidUptoRow : OpenClaim := { program := "ytjojhbdghhmeeaa", sum := "837f68c90fac46016184c07bf5c2bcac3cfffeb16679474c6cbc54c12cff7f58", func := "loop.example/gridpuzzles/laws.FnPuzzleValid", spec := "fnPuzzleValid", recurses := true, apart := false, narrowed := true }
def FnPuzzleValidUptoSaid : Prop := fnPuzzleValidUptoRow.holds Try.pinned (OpenSpec.upto fnPuzzleValidSpec)

/-- 'laws.FnMasksValid', WHERE WHAT IT READS IS OF BULK AT MOST 1048576: true; the input reads as it did. -/
def fnMasksValidUptoRow : OpenClaim := { program := "ytjojhbdghhmeeaa", sum := "837f68c90fac46016184c07bf5c2bcac3cfffeb16679474c6cbc54c12cff7f58", func := "loop.example/gridpuzzles/laws.FnMasksValid", spec := "fnMasksValid", recurses := true, apart := false, narrowed := true }
def FnMasksValidUptoSaid : Prop := fnMasksValidUptoRow.holds Try.pinned (OpenSpec.upto fnMasksValidSpec)

/-- 'laws.FnMasksHave', WHERE WHAT IT READS IS OF BULK AT MOST 1048576: true; the input reads as it did. -/
def fnMasksHaveUptoRow : OpenClaim := { program := "ytjojhbdghhmeeaa", sum := "837f68c90fac46016184c07bf5c2bcac3cfffeb16679474c6cbc54c12cff7f58", func := "loop.example/gridpuzzles/laws.FnMasksHave", spec := "fnMasksHave", recurses := true, apart := false, narrowed := true }
def FnMasksHaveUptoSaid : Prop := fnMasksHaveUptoRow.holds Try.pinned (OpenSpec.upto fnMasksHaveSpec)

/-- 'laws.FnMasksGrid', WHERE WHAT IT READS IS OF BULK AT MOST 1048576: true; the input reads as it did. -/
def fnMasksGridUptoRow : OpenClaim := { program := "ytjojhbdghhmeeaa", sum := "837f68c90fac46016184c07bf5c2bcac3cfffeb16679474c6cbc54c12cff7f58", func := "loop.example/gridpuzzles/laws.FnMasksGrid", spec := "fnMasksGrid", recurses := true, apart := false, narrowed := true }
def FnMasksGridUptoSaid : Prop := fnMasksGridUptoRow.holds Try.pinned (OpenSpec.upto fnMasksGridSpec)

/-- 'laws.FnNarrowSingles', WHERE WHAT IT READS IS OF BULK AT MOST 1048576: true; the input reads as it did. -/
def fnNarrowSinglesUptoRow : OpenClaim := { program := "ytjojhbdghhmeeaa", sum := "837f68c90fac46016184c07bf5c2bcac3cfffeb16679474c6cbc54c12cff7f58", func := "loop.example/gridpuzzles/laws.FnNarrowSingles", spec := "fnNarrowSingles", recurses := true, apart := false, narrowed := true }
def FnNarrowSinglesUptoSaid : Prop := fnNarrowSinglesUptoRow.holds Try.pinned (OpenSpec.upto fnNarrowSinglesSpec)

/-- 'laws.FnPairsIn', WHERE WHAT IT READS IS OF BULK AT MOST 1048576: true; the input reads as it did. -/
def fnPairsInUptoRow : OpenClaim := { program := "ytjojhbdghhmeeaa", sum := "837f68c90fac46016184c07bf5c2bcac3cfffeb16679474c6cbc54c12cff7f58", func := "loop.example/gridpuzzles/laws.FnPairsIn", spec := "fnPairsIn", recurses := true, apart := false, narrowed := true }
def FnPairsInUptoSaid : Prop := fnPairsInUptoRow.holds Try.pinned (OpenSpec.upto fnPairsInSpec)

/-- 'laws.FnMasksCount', WHERE WHAT IT READS IS OF BULK AT MOST 1048576: true; the input reads as it did. -/
def fnMasksCountUptoRow : OpenClaim := { program := "ytjojhbdghhmeeaa", sum := "837f68c90fac46016184c07bf5c2bcac3cfffeb16679474c6cbc54c12cff7f58", func := "loop.example/gridpuzzles/laws.FnMasksCount", spec := "fnMasksCount", recurses := true, apart := false, narrowed := true }
def FnMasksCountUptoSaid : Prop := fnMasksCountUptoRow.holds Try.pinned (OpenSpec.upto fnMasksCountSpec)

/-- 'laws.FnNarrowHidden', WHERE WHAT IT READS IS OF BULK AT MOST 1048576: true; the input reads as it did. -/
def fnNarrowHiddenUptoRow : OpenClaim := { program := "ytjojhbdghhmeeaa", sum := "837f68c90fac46016184c07bf5c2bcac3cfffeb16679474c6cbc54c12cff7f58", func := "loop.example/gridpuzzles/laws.FnNarrowHidden", spec := "fnNarrowHidden", recurses := true, apart := false, narrowed := true }
def FnNarrowHiddenUptoSaid : Prop := fnNarrowHiddenUptoRow.holds Try.pinned (OpenSpec.upto fnNarrowHiddenSpec)

/-- 'laws.FnNarrowPairs', WHERE WHAT IT READS IS OF BULK AT MOST 1048576: true; the input reads as it did. -/
def fnNarrowPairsUptoRow : OpenClaim := { program := "ytjojhbdghhmeeaa", sum := "837f68c90fac46016184c07bf5c2bcac3cfffeb16679474c6cbc54c12cff7f58", func := "loop.example/gridpuzzles/laws.FnNarrowPairs", spec := "fnNarrowPairs", recurses := true, apart := false, narrowed := true }
def FnNarrowPairsUptoSaid : Prop := fnNarrowPairsUptoRow.holds Try.pinned (OpenSpec.upto fnNarrowPairsSpec)

/-- 'laws.FnNarrowCandidates', WHERE WHAT IT READS IS OF BULK AT MOST 1048576: true; the input reads as it did. -/
def fnNarrowCandidatesUptoRow : OpenClaim := { program := "ytjojhbdghhmeeaa", sum := "837f68c90fac46016184c07bf5c2bcac3cfffeb16679474c6cbc54c12cff7f58", func := "loop.example/gridpuzzles/laws.FnNarrowCandidates", spec := "fnNarrowCandidates", recurses := true, apart := false, narrowed := true }
def FnNarrowCandidatesUptoSaid : Prop := fnNarrowCandidatesUptoRow.holds Try.pinned (OpenSpec.upto fnNarrowCandidatesSpec)

/-- 'laws.FnPuzzleFits', WHERE WHAT IT READS IS OF BULK AT MOST 1048576: true; the input reads as it did. -/
def fnPuzzleFitsUptoRow : OpenClaim := { program := "ytjojhbdghhmeeaa", sum := "837f68c90fac46016184c07bf5c2bcac3cfffeb16679474c6cbc54c12cff7f58", func := "loop.example/gridpuzzles/laws.FnPuzzleFits", spec := "fnPuzzleFits", unfollowed := true, recurses := true, apart := false, narrowed := true }
def FnPuzzleFitsUptoSaid : Prop := fnPuzzleFitsUptoRow.holds Try.pinned (OpenSpec.upto fnPuzzleFitsSpec)

/-- 'laws.FnPuzzleSolved', WHERE WHAT IT READS IS OF BULK AT MOST 1048576: true; the input reads as it did. -/
def fnPuzzleSolvedUptoRow : OpenClaim := { program := "ytjojhbdghhmeeaa", sum := "837f68c90fac46016184c07bf5c2bcac3cfffeb16679474c6cbc54c12cff7f58", func := "loop.example/gridpuzzles/laws.FnPuzzleSolved", spec := "fnPuzzleSolved", unfollowed := true, recurses := true, apart := false, narrowed := true }
def FnPuzzleSolvedUptoSaid : Prop := fnPuzzleSolvedUptoRow.holds Try.pinned (OpenSpec.upto fnPuzzleSolvedSpec)

/-- 'laws.FnRuleMasks', WHERE WHAT IT READS IS OF BULK AT MOST 1048576: true; the input reads as it did. -/
def fnRuleMasksUptoRow : OpenClaim := { program := "ytjojhbdghhmeeaa", sum := "837f68c90fac46016184c07bf5c2bcac3cfffeb16679474c6cbc54c12cff7f58", func := "loop.example/gridpuzzles/laws.FnRuleMasks", spec := "fnRuleMasks", unfollowed := true, recurses := true, apart := false, narrowed := true }
def FnRuleMasksUptoSaid : Prop := fnRuleMasksUptoRow.holds Try.pinned (OpenSpec.upto fnRuleMasksSpec)

/-- 'laws.FnNarrowBy', WHERE WHAT IT READS IS OF BULK AT MOST 1048576: true; the input reads as it did. -/
def fnNarrowByUptoRow : OpenClaim := { program := "ytjojhbdghhmeeaa", sum := "837f68c90fac46016184c07bf5c2bcac3cfffeb16679474c6cbc54c12cff7f58", func := "loop.example/gridpuzzles/laws.FnNarrowBy", spec := "fnNarrowBy", unfollowed := true, recurses := true, apart := false, narrowed := true }
def FnNarrowByUptoSaid : Prop := fnNarrowByUptoRow.holds Try.pinned (OpenSpec.upto fnNarrowBySpec)

/-- 'laws.FnStepMasks', WHERE WHAT IT READS IS OF BULK AT MOST 1048576: true; the input reads as it did. -/
def fnStepMasksUptoRow : OpenClaim := { program := "ytjojhbdghhmeeaa", sum := "837f68c90fac46016184c07bf5c2bcac3cfffeb16679474c6cbc54c12cff7f58", func := "loop.example/gridpuzzles/laws.FnStepMasks", spec := "fnStepMasks", unfollowed := true, recurses := true, apart := false, narrowed := true }
def FnStepMasksUptoSaid : Prop := fnStepMasksUptoRow.holds Try.pinned (OpenSpec.upto fnStepMasksSpec)

end Rows
end Go.Proofs.Ytjojhbdghhmeeaa
