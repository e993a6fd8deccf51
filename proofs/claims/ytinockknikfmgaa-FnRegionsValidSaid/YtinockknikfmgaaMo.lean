/- Plain definitions on lists of numbers (what is a valid list of regions, its cells, ..) and plain lemmas on them. No conditions. -/
import Derived.Test.YtinockknikfmgaaPk
set_option linter.unusedSimpArgs false
set_option linter.unusedVariables false
namespace Go.Proofs.Ytinockknikfmgaa.Mo

def AllIn (lo hi : Int) (l : List Int) : Prop := ∀ x ∈ l, lo ≤ x ∧ x ≤ hi
instance (lo hi : Int) (l : List Int) : Decidable (AllIn lo hi l) := by unfold AllIn; infer_instance
def SizeOk (s : Int) : Prop := 2 ≤ s ∧ s ≤ 4
instance (s : Int) : Decidable (SizeOk s) := by unfold SizeOk; infer_instance
/-- A list of a square's cells, each in 0..hi. -/
def SqOk (hi : Int) (l : List Int) (s : Int) : Prop := SizeOk s ∧ (l.length : Int) = s * s ∧ AllIn 0 hi l
instance (hi : Int) (l : List Int) (s : Int) : Decidable (SqOk hi l s) := by unfold SqOk; infer_instance
theorem AllIn.nil (lo hi : Int) : AllIn lo hi [] := fun _ h => by cases h
theorem AllIn.cons {lo hi x : Int} {l : List Int} : AllIn lo hi (x :: l) ↔ (lo ≤ x ∧ x ≤ hi) ∧ AllIn lo hi l := by
  unfold AllIn; simp [List.forall_mem_cons]
theorem SizeOk.cases {s : Int} (h : SizeOk s) : s = 2 ∨ s = 3 ∨ s = 4 := by unfold SizeOk at h; omega
theorem SqOk.len {hi s : Int} {l : List Int} (h : SqOk hi l s) : l.length = s.toNat * s.toNat := by
  obtain ⟨h1, h2, _⟩ := h
  rcases h1.cases with rfl | rfl | rfl <;> simp_all <;> omega
theorem SqOk.len16 {hi s : Int} {l : List Int} (h : SqOk hi l s) : l.length ≤ 16 := by
  obtain ⟨h1, h2, _⟩ := h
  rcases h1.cases with rfl | rfl | rfl <;> omega
theorem SqOk.pos {hi s : Int} {l : List Int} (h : SqOk hi l s) : 4 ≤ l.length := by
  obtain ⟨h1, h2, _⟩ := h
  rcases h1.cases with rfl | rfl | rfl <;> omega

/-- The places of a value, from place i on. -/
def places (r : Int) : Nat → List Int → List Int
  | _, [] => []
  | i, x :: t => if x = r then (i : Int) :: places r (i + 1) t else places r (i + 1) t
theorem places_length (r : Int) : ∀ (l : List Int) (i : Nat), (places r i l).length ≤ l.length
  | [], _ => Nat.le_refl _
  | x :: t, i => by
    have := places_length r t (i + 1)
    unfold places; split <;> simp <;> omega
theorem places_none {r : Int} : ∀ {l : List Int} {i : Nat}, (∀ x ∈ l, x ≠ r) → places r i l = []
  | [], _, _ => rfl
  | x :: t, i, h => by
    unfold places
    rw [if_neg (h x (by simp)), places_none (fun y hy => h y (by simp [hy]))]
theorem places_mem {r c : Int} : ∀ {l : List Int} {i : Nat}, c ∈ places r i l → ∃ j, j < l.length ∧ c = ((i + j : Nat) : Int) ∧ l[j]? = some r
  | [], _, h => by cases h
  | x :: t, i, h => by
    unfold places at h
    by_cases e : x = r
    · rw [if_pos e] at h
      rcases List.mem_cons.1 h with h | h
      · exact ⟨0, by simp, by simpa using h, by simp [e]⟩
      · obtain ⟨j, h1, h2, h3⟩ := places_mem h
        exact ⟨j + 1, by simp; omega, by rw [h2]; omega, by simpa using h3⟩
    · rw [if_neg e] at h
      obtain ⟨j, h1, h2, h3⟩ := places_mem h
      exact ⟨j + 1, by simp; omega, by rw [h2]; omega, by simpa using h3⟩
theorem places_sorted (r : Int) : ∀ (l : List Int) (i : Nat), (places r i l).Pairwise (· < ·)
  | [], _ => List.Pairwise.nil
  | x :: t, i => by
    unfold places
    split
    · refine List.Pairwise.cons (fun c hc => ?_) (places_sorted r t (i + 1))
      obtain ⟨j, _, h2, _⟩ := places_mem hc
      omega
    · exact places_sorted r t (i + 1)
/-- m, m + 1, .., n numbers. -/
def marks (m : Int) (n : Nat) : List Int := (List.range n).map fun i => m + ((i : Nat) : Int)
@[simp] theorem marks_length (m : Int) (n : Nat) : (marks m n).length = n := by simp [marks]
theorem marks_succ (m : Int) (n : Nat) : marks m (n + 1) = marks m n ++ [m + n] := by simp [marks, List.range_succ]
def boxes : List Int := [0, 0, 1, 1, 0, 0, 1, 1, 2, 2, 3, 3, 2, 2, 3, 3]
end Go.Proofs.Ytinockknikfmgaa.Mo
