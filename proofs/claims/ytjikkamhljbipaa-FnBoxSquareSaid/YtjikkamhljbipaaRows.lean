/-
  No cell of these rows narrows 'for every input' (looked for: loops, veiled, ifaces, maps, wideKeys, modest, calm, conditions, laid).
  DERIVED. THE GIVEN ROWS OF THIS SEAT. 10 by the template 'for every input the law returns true; each argument reads behind the call as it read before'; 0 by the template 'total and deterministic' (their statements: YtjikkamhljbipaaTotals.lean).
  GIVEN WITH THE SEED: the statements are not yours to turn. If you find one false, say at which input.
  Laid BY PROGRAM, IN A SANDBOX (cutbox-rows.mjs): the forced cells as the released guide's own fill.sh prints them over the translation 0faf533d999496f0… (all of the seat's roots in one cut). By AI agents, Wed Nov 11 2026. No macro, syntax, notation, axiom, sorry.
-/
import Derived.Test.YtjikkamhljbipaaChecked
import GoSem.Claim
import GoSem.ClaimJoined
import GoSem.ClaimMapViews
import Derived.JoinedTies
import Derived.KernelRfl
namespace Go.Proofs.Ytjikkamhljbipaa
/- THE CELL 'sum', in the pinned program and in every row, IS THE sha256 OF THE DUMP (.gsa) THAT YtjikkamhljbipaaProg.lean LOADS. Nothing in Lean hashes anything: it is a label: what it is worth is what the hold of that sum in a sandbox is worth. -/
noncomputable def Try.pinned : Pinned := { name := "ytjikkamhljbipaa", sum := "0faf533d999496f01f66fa59b7b501b5312c32b1fceaf849fdf429c6a02cfd80", checked := Try.checked }
namespace Rows
def none {H : Type} : Left H := { results := [], args := [] }

/-- 'laws.FnBoxSquare': WHATEVER THE INPUT: true; the input reads as it did. -/
def fnBoxSquareSpec : ChangeSpec := { name := "fnBoxSquare", fn := fun _ => fun
  | [d] => { results := [.lit (.bool true)], args := [d] }
  | _ => none }
def fnBoxSquareRow : OpenClaim := { program := "ytjikkamhljbipaa", sum := "0faf533d999496f01f66fa59b7b501b5312c32b1fceaf849fdf429c6a02cfd80", func := "loop.example/gridpuzzles/laws.FnBoxSquare", spec := "fnBoxSquare", unfollowed := true, recurses := true, apart := false }
def FnBoxSquareSaid : Prop := fnBoxSquareRow.holds Try.pinned (OpenSpec.ofChange fnBoxSquareSpec)

/-- ITS FALSE NEIGHBOUR: 'it returns false'. Refute it at one input. -/
def fnBoxSquareWrong : ChangeSpec := { name := "fnBoxSquare", fn := fun _ => fun
  | [d] => { results := [.lit (.bool false)], args := [d] }
  | _ => none }
def FnBoxSquareWrongFalsely : Prop := fnBoxSquareRow.holds Try.pinned (OpenSpec.ofChange fnBoxSquareWrong)

/-- 'laws.FnRulesLess': WHATEVER THE INPUT: true; the input reads as it did. -/
def fnRulesLessSpec : ChangeSpec := { name := "fnRulesLess", fn := fun _ => fun
  | [d] => { results := [.lit (.bool true)], args := [d] }
  | _ => none }
def fnRulesLessRow : OpenClaim := { program := "ytjikkamhljbipaa", sum := "0faf533d999496f01f66fa59b7b501b5312c32b1fceaf849fdf429c6a02cfd80", func := "loop.example/gridpuzzles/laws.FnRulesLess", spec := "fnRulesLess", unfollowed := true, recurses := true, apart := false }
def FnRulesLessSaid : Prop := fnRulesLessRow.holds Try.pinned (OpenSpec.ofChange fnRulesLessSpec)

/-- ITS FALSE NEIGHBOUR: 'it returns false'. Refute it at one input. -/
def fnRulesLessWrong : ChangeSpec := { name := "fnRulesLess", fn := fun _ => fun
  | [d] => { results := [.lit (.bool false)], args := [d] }
  | _ => none }
def FnRulesLessWrongFalsely : Prop := fnRulesLessRow.holds Try.pinned (OpenSpec.ofChange fnRulesLessWrong)

/-- 'laws.FnCountSolutions': WHATEVER THE INPUT: true; the input reads as it did. -/
def fnCountSolutionsSpec : ChangeSpec := { name := "fnCountSolutions", fn := fun _ => fun
  | [d] => { results := [.lit (.bool true)], args := [d] }
  | _ => none }
def fnCountSolutionsRow : OpenClaim := { program := "ytjikkamhljbipaa", sum := "0faf533d999496f01f66fa59b7b501b5312c32b1fceaf849fdf429c6a02cfd80", func := "loop.example/gridpuzzles/laws.FnCountSolutions", spec := "fnCountSolutions", unfollowed := true, recurses := true, apart := false }
def FnCountSolutionsSaid : Prop := fnCountSolutionsRow.holds Try.pinned (OpenSpec.ofChange fnCountSolutionsSpec)

/-- ITS FALSE NEIGHBOUR: 'it returns false'. Refute it at one input. -/
def fnCountSolutionsWrong : ChangeSpec := { name := "fnCountSolutions", fn := fun _ => fun
  | [d] => { results := [.lit (.bool false)], args := [d] }
  | _ => none }
def FnCountSolutionsWrongFalsely : Prop := fnCountSolutionsRow.holds Try.pinned (OpenSpec.ofChange fnCountSolutionsWrong)

/-- 'laws.FnIsMinimal': WHATEVER THE INPUT: true; the input reads as it did. -/
def fnIsMinimalSpec : ChangeSpec := { name := "fnIsMinimal", fn := fun _ => fun
  | [d] => { results := [.lit (.bool true)], args := [d] }
  | _ => none }
def fnIsMinimalRow : OpenClaim := { program := "ytjikkamhljbipaa", sum := "0faf533d999496f01f66fa59b7b501b5312c32b1fceaf849fdf429c6a02cfd80", func := "loop.example/gridpuzzles/laws.FnIsMinimal", spec := "fnIsMinimal", unfollowed := true, recurses := true, apart := false }
def FnIsMinimalSaid : Prop := fnIsMinimalRow.holds Try.pinned (OpenSpec.ofChange fnIsMinimalSpec)

/-- ITS FALSE NEIGHBOUR: 'it returns false'. Refute it at one input. -/
def fnIsMinimalWrong : ChangeSpec := { name := "fnIsMinimal", fn := fun _ => fun
  | [d] => { results := [.lit (.bool false)], args := [d] }
  | _ => none }
def FnIsMinimalWrongFalsely : Prop := fnIsMinimalRow.holds Try.pinned (OpenSpec.ofChange fnIsMinimalWrong)

/-- 'laws.FnIsRedundant': WHATEVER THE INPUT: true; the input reads as it did. -/
def fnIsRedundantSpec : ChangeSpec := { name := "fnIsRedundant", fn := fun _ => fun
  | [d] => { results := [.lit (.bool true)], args := [d] }
  | _ => none }
def fnIsRedundantRow : OpenClaim := { program := "ytjikkamhljbipaa", sum := "0faf533d999496f01f66fa59b7b501b5312c32b1fceaf849fdf429c6a02cfd80", func := "loop.example/gridpuzzles/laws.FnIsRedundant", spec := "fnIsRedundant", unfollowed := true, recurses := true, apart := false }
def FnIsRedundantSaid : Prop := fnIsRedundantRow.holds Try.pinned (OpenSpec.ofChange fnIsRedundantSpec)

/-- ITS FALSE NEIGHBOUR: 'it returns false'. Refute it at one input. -/
def fnIsRedundantWrong : ChangeSpec := { name := "fnIsRedundant", fn := fun _ => fun
  | [d] => { results := [.lit (.bool false)], args := [d] }
  | _ => none }
def FnIsRedundantWrongFalsely : Prop := fnIsRedundantRow.holds Try.pinned (OpenSpec.ofChange fnIsRedundantWrong)

/-- 'laws.FnSolveFirst': WHATEVER THE INPUT: true; the input reads as it did. -/
def fnSolveFirstSpec : ChangeSpec := { name := "fnSolveFirst", fn := fun _ => fun
  | [d] => { results := [.lit (.bool true)], args := [d] }
  | _ => none }
def fnSolveFirstRow : OpenClaim := { program := "ytjikkamhljbipaa", sum := "0faf533d999496f01f66fa59b7b501b5312c32b1fceaf849fdf429c6a02cfd80", func := "loop.example/gridpuzzles/laws.FnSolveFirst", spec := "fnSolveFirst", unfollowed := true, recurses := true, apart := false }
def FnSolveFirstSaid : Prop := fnSolveFirstRow.holds Try.pinned (OpenSpec.ofChange fnSolveFirstSpec)

/-- ITS FALSE NEIGHBOUR: 'it returns false'. Refute it at one input. -/
def fnSolveFirstWrong : ChangeSpec := { name := "fnSolveFirst", fn := fun _ => fun
  | [d] => { results := [.lit (.bool false)], args := [d] }
  | _ => none }
def FnSolveFirstWrongFalsely : Prop := fnSolveFirstRow.holds Try.pinned (OpenSpec.ofChange fnSolveFirstWrong)

/-- 'laws.FnMinimalAgain': WHATEVER THE INPUT: true; the input reads as it did. -/
def fnMinimalAgainSpec : ChangeSpec := { name := "fnMinimalAgain", fn := fun _ => fun
  | [d] => { results := [.lit (.bool true)], args := [d] }
  | _ => none }
def fnMinimalAgainRow : OpenClaim := { program := "ytjikkamhljbipaa", sum := "0faf533d999496f01f66fa59b7b501b5312c32b1fceaf849fdf429c6a02cfd80", func := "loop.example/gridpuzzles/laws.FnMinimalAgain", spec := "fnMinimalAgain", unfollowed := true, recurses := true, apart := false }
def FnMinimalAgainSaid : Prop := fnMinimalAgainRow.holds Try.pinned (OpenSpec.ofChange fnMinimalAgainSpec)

/-- ITS FALSE NEIGHBOUR: 'it returns false'. Refute it at one input. -/
def fnMinimalAgainWrong : ChangeSpec := { name := "fnMinimalAgain", fn := fun _ => fun
  | [d] => { results := [.lit (.bool false)], args := [d] }
  | _ => none }
def FnMinimalAgainWrongFalsely : Prop := fnMinimalAgainRow.holds Try.pinned (OpenSpec.ofChange fnMinimalAgainWrong)

/-- 'laws.FnStartMasks': WHATEVER THE INPUT: true; the input reads as it did. -/
def fnStartMasksSpec : ChangeSpec := { name := "fnStartMasks", fn := fun _ => fun
  | [d] => { results := [.lit (.bool true)], args := [d] }
  | _ => none }
def fnStartMasksRow : OpenClaim := { program := "ytjikkamhljbipaa", sum := "0faf533d999496f01f66fa59b7b501b5312c32b1fceaf849fdf429c6a02cfd80", func := "loop.example/gridpuzzles/laws.FnStartMasks", spec := "fnStartMasks", unfollowed := true, recurses := true, apart := false }
def FnStartMasksSaid : Prop := fnStartMasksRow.holds Try.pinned (OpenSpec.ofChange fnStartMasksSpec)

/-- ITS FALSE NEIGHBOUR: 'it returns false'. Refute it at one input. -/
def fnStartMasksWrong : ChangeSpec := { name := "fnStartMasks", fn := fun _ => fun
  | [d] => { results := [.lit (.bool false)], args := [d] }
  | _ => none }
def FnStartMasksWrongFalsely : Prop := fnStartMasksRow.holds Try.pinned (OpenSpec.ofChange fnStartMasksWrong)

/-- 'laws.FnMakeMinimal': WHATEVER THE INPUT: true; the input reads as it did. -/
def fnMakeMinimalSpec : ChangeSpec := { name := "fnMakeMinimal", fn := fun _ => fun
  | [d] => { results := [.lit (.bool true)], args := [d] }
  | _ => none }
def fnMakeMinimalRow : OpenClaim := { program := "ytjikkamhljbipaa", sum := "0faf533d999496f01f66fa59b7b501b5312c32b1fceaf849fdf429c6a02cfd80", func := "loop.example/gridpuzzles/laws.FnMakeMinimal", spec := "fnMakeMinimal", unfollowed := true, recurses := true, apart := false }
def FnMakeMinimalSaid : Prop := fnMakeMinimalRow.holds Try.pinned (OpenSpec.ofChange fnMakeMinimalSpec)

/-- ITS FALSE NEIGHBOUR: 'it returns false'. Refute it at one input. -/
def fnMakeMinimalWrong : ChangeSpec := { name := "fnMakeMinimal", fn := fun _ => fun
  | [d] => { results := [.lit (.bool false)], args := [d] }
  | _ => none }
def FnMakeMinimalWrongFalsely : Prop := fnMakeMinimalRow.holds Try.pinned (OpenSpec.ofChange fnMakeMinimalWrong)

/-- 'laws.FnPuzzleOf': WHATEVER THE INPUT: true; the input reads as it did. -/
def fnPuzzleOfSpec : ChangeSpec := { name := "fnPuzzleOf", fn := fun _ => fun
  | [d] => { results := [.lit (.bool true)], args := [d] }
  | _ => none }
def fnPuzzleOfRow : OpenClaim := { program := "ytjikkamhljbipaa", sum := "0faf533d999496f01f66fa59b7b501b5312c32b1fceaf849fdf429c6a02cfd80", func := "loop.example/gridpuzzles/laws.FnPuzzleOf", spec := "fnPuzzleOf", unfollowed := true, recurses := true, apart := false }
def FnPuzzleOfSaid : Prop := fnPuzzleOfRow.holds Try.pinned (OpenSpec.ofChange fnPuzzleOfSpec)

/-- ITS FALSE NEIGHBOUR: 'it returns false'. Refute it at one input. -/
def fnPuzzleOfWrong : ChangeSpec := { name := "fnPuzzleOf", fn := fun _ => fun
  | [d] => { results := [.lit (.bool false)], args := [d] }
  | _ => none }
def FnPuzzleOfWrongFalsely : Prop := fnPuzzleOfRow.holds Try.pinned (OpenSpec.ofChange fnPuzzleOfWrong)

/- THE SECOND FORM. 'bulk': how many values and letters a reading holds, each counted each time it is reached (what is shared counts as often as it is met; a slice's spare places count too). A statement '..UptoSaid' is the law's where the arguments, and the package variables that the reading takes, are together of bulk at most 1048576: NARROWER than '..Said'. Prove '..Said' where nothing that the law and all that it calls make is longer than what came in: it says more and counts as full. Else prove '..UptoSaid'. A law counts once. -/
mutual
def uptoBulk {H : Type} : DataW H → Nat
  | .lit (.string bytes) => bytes.length + 1
  | .lit _ => 1
  | .nil => 1
  | .ptr d => uptoBulk d + 1
  | .slice elems spare => uptoBulkAll elems + uptoBulkAll spare + 1
  | .agg parts => uptoBulkAll parts + 1
  | .iface _ d => uptoBulk d + 1
  | .map entries => uptoBulkEntries entries + 1
  | .held _ => 1
def uptoBulkAll {H : Type} : List (DataW H) → Nat
  | [] => 0
  | d :: r => uptoBulk d + uptoBulkAll r
def uptoBulkEntries {H : Type} : List (Lit × DataW H) → Nat
  | [] => 0
  | x :: r => uptoBulkEntry x + uptoBulkEntries r
def uptoBulkEntry {H : Type} : Lit × DataW H → Nat
  | (.string bytes, d) => bytes.length + uptoBulk d + 1
  | (_, d) => uptoBulk d + 1
 end
def uptoSmall : (H : Type) → List (DataW H) → Bool := fun _ ds => decide (uptoBulkAll ds ≤ 1048576)
def OpenSpec.upto (s : _root_.Go.ChangeSpec) : _root_.Go.OpenSpec := { _root_.Go.OpenSpec.ofChange s with cond := some uptoSmall }

/-- 'laws.FnBoxSquare', WHERE WHAT IT READS IS OF BULK AT MOST 1048576: true; the input reads as it did. -/
def fnBoxSquareUptoRow : OpenClaim := { program := "ytjikkamhljbipaa", sum := "0faf533d999496f01f66fa59b7b501b5312c32b1fceaf849fdf429c6a02cfd80", func := "loop.example/gridpuzzles/laws.FnBoxSquare", spec := "fnBoxSquare", unfollowed := true, recurses := true, apart := false, narrowed := true }
def FnBoxSquareUptoSaid : Prop := fnBoxSquareUptoRow.holds Try.pinned (OpenSpec.upto fnBoxSquareSpec)

/-- 'laws.FnRulesLess', WHERE WHAT IT READS IS OF BULK AT MOST 1048576: true; the input reads as it did. -/
def fnRulesLessUptoRow : OpenClaim := { program := "ytjikkamhljbipaa", sum := "0faf533d999496f01f66fa59b7b501b5312c32b1fceaf849fdf429c6a02cfd80", func := "loop.example/gridpuzzles/laws.FnRulesLess", spec := "fnRulesLess", unfollowed := true, recurses := true, apart := false, narrowed := true }
def FnRulesLessUptoSaid : Prop := fnRulesLessUptoRow.holds Try.pinned (OpenSpec.upto fnRulesLessSpec)

/-- 'laws.FnCountSolutions', WHERE WHAT IT READS IS OF BULK AT MOST 1048576: true; the input reads as it did. -/
def fnCountSolutionsUptoRow : OpenClaim := { program := "ytjikkamhljbipaa", sum := "0faf533d999496f01f66fa59b7b501b5312c32b1fceaf849fdf429c6a02cfd80", func := "loop.example/gridpuzzles/laws.FnCountSolutions", spec := "fnCountSolutions", unfollowed := true, recurses := true, apart := false, narrowed := true }
def FnCountSolutionsUptoSaid : Prop := fnCountSolutionsUptoRow.holds Try.pinned (OpenSpec.upto fnCountSolutionsSpec)

/-- 'laws.FnIsMinimal', WHERE WHAT IT READS IS OF BULK AT MOST 1048576: true; the input reads as it did. -/
def fnIsMinimalUptoRow : OpenClaim := { program := "ytjikkamhljbipaa", sum := "0faf533d999496f01f66fa59b7b501b5312c32b1fceaf849fdf429c6a02cfd80", func := "loop.example/gridpuzzles/laws.FnIsMinimal", spec := "fnIsMinimal", unfollowed := true, recurses := true, apart := false, narrowed := true }
def FnIsMinimalUptoSaid : Prop := fnIsMinimalUptoRow.holds Try.pinned (OpenSpec.upto fnIsMinimalSpec)

/-- 'laws.FnIsRedundant', WHERE WHAT IT READS IS OF BULK AT MOST 1048576: true; the input reads as it did. -/
def fnIsRedundantUptoRow : OpenClaim := { program := "ytjikkamhljbipaa", sum := "0faf533d999496f01f66fa59b7b501b5312c32b1fceaf849fdf429c6a02cfd80", func := "loop.example/gridpuzzles/laws.FnIsRedundant", spec := "fnIsRedundant", unfollowed := true, recurses := true, apart := false, narrowed := true }
def FnIsRedundantUptoSaid : Prop := fnIsRedundantUptoRow.holds Try.pinned (OpenSpec.upto fnIsRedundantSpec)

/-- 'laws.FnSolveFirst', WHERE WHAT IT READS IS OF BULK AT MOST 1048576: true; the input reads as it did. -/
def fnSolveFirstUptoRow : OpenClaim := { program := "ytjikkamhljbipaa", sum := "0faf533d999496f01f66fa59b7b501b5312c32b1fceaf849fdf429c6a02cfd80", func := "loop.example/gridpuzzles/laws.FnSolveFirst", spec := "fnSolveFirst", unfollowed := true, recurses := true, apart := false, narrowed := true }
def FnSolveFirstUptoSaid : Prop := fnSolveFirstUptoRow.holds Try.pinned (OpenSpec.upto fnSolveFirstSpec)

/-- 'laws.FnMinimalAgain', WHERE WHAT IT READS IS OF BULK AT MOST 1048576: true; the input reads as it did. -/
def fnMinimalAgainUptoRow : OpenClaim := { program := "ytjikkamhljbipaa", sum := "0faf533d999496f01f66fa59b7b501b5312c32b1fceaf849fdf429c6a02cfd80", func := "loop.example/gridpuzzles/laws.FnMinimalAgain", spec := "fnMinimalAgain", unfollowed := true, recurses := true, apart := false, narrowed := true }
def FnMinimalAgainUptoSaid : Prop := fnMinimalAgainUptoRow.holds Try.pinned (OpenSpec.upto fnMinimalAgainSpec)

/-- 'laws.FnStartMasks', WHERE WHAT IT READS IS OF BULK AT MOST 1048576: true; the input reads as it did. -/
def fnStartMasksUptoRow : OpenClaim := { program := "ytjikkamhljbipaa", sum := "0faf533d999496f01f66fa59b7b501b5312c32b1fceaf849fdf429c6a02cfd80", func := "loop.example/gridpuzzles/laws.FnStartMasks", spec := "fnStartMasks", unfollowed := true, recurses := true, apart := false, narrowed := true }
def FnStartMasksUptoSaid : Prop := fnStartMasksUptoRow.holds Try.pinned (OpenSpec.upto fnStartMasksSpec)

/-- 'laws.FnMakeMinimal', WHERE WHAT IT READS IS OF BULK AT MOST 1048576: true; the input reads as it did. -/
def fnMakeMinimalUptoRow : OpenClaim := { program := "ytjikkamhljbipaa", sum := "0faf533d999496f01f66fa59b7b501b5312c32b1fceaf849fdf429c6a02cfd80", func := "loop.example/gridpuzzles/laws.FnMakeMinimal", spec := "fnMakeMinimal", unfollowed := true, recurses := true, apart := false, narrowed := true }
def FnMakeMinimalUptoSaid : Prop := fnMakeMinimalUptoRow.holds Try.pinned (OpenSpec.upto fnMakeMinimalSpec)

/-- 'laws.FnPuzzleOf', WHERE WHAT IT READS IS OF BULK AT MOST 1048576: true; the input reads as it did. -/
def fnPuzzleOfUptoRow : OpenClaim := { program := "ytjikkamhljbipaa", sum := "0faf533d999496f01f66fa59b7b501b5312c32b1fceaf849fdf429c6a02cfd80", func := "loop.example/gridpuzzles/laws.FnPuzzleOf", spec := "fnPuzzleOf", unfollowed := true, recurses := true, apart := false, narrowed := true }
def FnPuzzleOfUptoSaid : Prop := fnPuzzleOfUptoRow.holds Try.pinned (OpenSpec.upto fnPuzzleOfSpec)

end Rows
end Go.Proofs.Ytjikkamhljbipaa
