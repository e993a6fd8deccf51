/- Plain definitions on fields of edges (what is a valid one, its edges), and plain lemmas on them. No conditions. -/
import Derived.Test.YtinockknikfmgaaMo
set_option linter.unusedSimpArgs false
set_option linter.unusedVariables false
namespace Go.Proofs.Ytinockknikfmgaa.Mo
open Go.RowKit Go.Proofs.Ytinockknikfmgaa.Pk Go.Proofs.YtinockknikfmgaaW.PrintWords

def Lens (n : Int) (l : List (List Bool)) : Prop := ∀ x ∈ l, (x.length : Int) = n
instance (n : Int) (l : List (List Bool)) : Decidable (Lens n l) := by unfold Lens; infer_instance
theorem Lens.nil (n : Int) : Lens n [] := fun _ h => by cases h
theorem Lens.cons {n : Int} {x : List Bool} {l : List (List Bool)} : Lens n (x :: l) ↔ (x.length : Int) = n ∧ Lens n l := by
  unfold Lens; simp [List.forall_mem_cons]
/-- A field of edges: R rows and C columns of cells, R + 1 rows with C edges each, C + 1 columns with R edges each. -/
def FieldOk (R C : Int) (A D : List (List Bool)) : Prop :=
  (1 ≤ R ∧ R ≤ 4) ∧ (1 ≤ C ∧ C ≤ 4) ∧ (A.length : Int) = R + 1 ∧ (D.length : Int) = C + 1 ∧ Lens C A ∧ Lens R D
instance (R C : Int) (A D : List (List Bool)) : Decidable (FieldOk R C A D) := by unfold FieldOk; infer_instance
def Short (l : List (List Bool)) : Prop := l.length ≤ 1048576 ∧ ∀ x ∈ l, x.length ≤ 1048576
theorem getD_mem (l : List (List Bool)) (i : Nat) (h : i < l.length) : l.getD i [] = l[i] := by
  simp [h]
end Go.Proofs.Ytinockknikfmgaa.Mo
