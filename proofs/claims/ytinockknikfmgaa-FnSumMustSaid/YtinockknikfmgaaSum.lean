/- Sets of digits with a sum, as lists of masks: what all have, what some have, and what the digits that are left out have. No conditions. -/
import Derived.Test.YtinockknikfmgaaMo
set_option linter.unusedSimpArgs false
set_option linter.unusedVariables false
namespace Go.Proofs.Ytinockknikfmgaa.Mo
open Go.RowKit Go.Proofs.Ytinockknikfmgaa.Pk Go.Proofs.YtinockknikfmgaaW.PrintWords

/-- The sum of the digits of a mask, and how many they are, from digit d on, r digits. -/
def dsum (x : Nat) : Nat → Nat → Nat
  | 0, _ => 0
  | r + 1, d => d * (x / 2 ^ d % 2) + dsum x r (d + 1)
def dcnt (x : Nat) : Nat → Nat → Nat
  | 0, _ => 0
  | r + 1, d => x / 2 ^ d % 2 + dcnt x r (d + 1)
def isSet (s m : Int) (x : Nat) : Bool := (dsum x 9 1 : Int) == s && (dcnt x 9 1 : Int) == m
def setsN (s m : Int) : List Nat := ((List.range 512).map (2 * ·)).filter (isSet s m)
def ints (l : List Nat) : List Int := l.map fun x => ((x : Nat) : Int)
@[simp] theorem ints_length (l : List Nat) : (ints l).length = l.length := by simp [ints]
def mustOf : List Nat → Nat
  | [] => 0
  | x :: t => t.foldl (· &&& ·) x
def canOf (l : List Nat) : Nat := l.foldl (· ||| ·) 0
theorem foldl_and (b : Nat) : ∀ (t : List Nat) (x : Nat), (t.foldl (· &&& ·) x).testBit b = (x.testBit b && t.all (·.testBit b))
  | [], x => by simp
  | y :: t, x => by rw [List.foldl_cons, foldl_and b t, Nat.testBit_and, List.all_cons, Bool.and_assoc]
theorem foldl_or (b : Nat) : ∀ (t : List Nat) (x : Nat), (t.foldl (· ||| ·) x).testBit b = (x.testBit b || t.any (·.testBit b))
  | [], x => by simp
  | y :: t, x => by rw [List.foldl_cons, foldl_or b t, Nat.testBit_or, List.any_cons, Bool.or_assoc]
theorem must_bit {l : List Nat} (h : l ≠ []) (b : Nat) : (mustOf l).testBit b = l.all (·.testBit b) := by
  cases l with
  | nil => exact absurd rfl h
  | cons x t => rw [mustOf, foldl_and, List.all_cons]
theorem can_bit (l : List Nat) (b : Nat) : (canOf l).testBit b = l.any (·.testBit b) := by
  rw [canOf, foldl_or, Nat.zero_testBit, Bool.false_or]
theorem set_mem {s m : Int} {x : Nat} : x ∈ setsN s m ↔ (∃ i, i < 512 ∧ x = 2 * i) ∧ isSet s m x = true := by
  unfold setsN
  rw [List.mem_filter, List.mem_map]
  constructor
  · rintro ⟨⟨i, h1, h2⟩, h⟩
    exact ⟨⟨i, List.mem_range.1 h1, h2.symm⟩, h⟩
  · rintro ⟨⟨i, h1, h2⟩, h⟩
    exact ⟨⟨i, List.mem_range.2 h1, h2.symm⟩, h⟩
theorem set_lt {s m : Int} {x : Nat} (h : x ∈ setsN s m) : x < 1024 := by
  obtain ⟨⟨i, h1, h2⟩, _⟩ := set_mem.1 h; omega
theorem dsum_other : ∀ i, i < 512 → dsum (1022 - 2 * i) 9 1 + dsum (2 * i) 9 1 = 45 := by decide +kernel
theorem dcnt_other : ∀ i, i < 512 → dcnt (1022 - 2 * i) 9 1 + dcnt (2 * i) 9 1 = 9 := by decide +kernel
theorem other_xor : ∀ i, i < 512 → 1022 - 2 * i = 1022 ^^^ (2 * i) ∧ (2 * i) &&& 1022 = 2 * i := by decide +kernel
theorem other_mem {s m : Int} {x : Nat} (h : x ∈ setsN s m) : 1022 - x ∈ setsN (45 - s) (9 - m) := by
  obtain ⟨⟨i, h1, rfl⟩, h⟩ := set_mem.1 h
  refine set_mem.2 ⟨⟨511 - i, by omega, by omega⟩, ?_⟩
  have a := dsum_other i h1
  have b := dcnt_other i h1
  simp only [isSet, Bool.and_eq_true, beq_iff_eq] at h ⊢
  omega
theorem must_lt {s m : Int} : mustOf (setsN s m) < 1024 := by
  by_cases h : setsN s m = []
  · rw [h]; decide
  · obtain ⟨x, hx⟩ := List.exists_mem_of_ne_nil _ h
    have : mustOf (setsN s m) ≤ x := by
      apply le_of_bits
      intro b hb
      rw [must_bit h, List.all_eq_true] at hb
      exact hb x hx
    have := set_lt hx
    omega
theorem can_lt {s m : Int} : canOf (setsN s m) < 1024 := by
  have key : ∀ (l : List Nat), (∀ x ∈ l, x < 2 ^ 10) → ∀ y, y < 2 ^ 10 → l.foldl (· ||| ·) y < 2 ^ 10 := by
    intro l
    induction l with
    | nil => intro _ y hy; exact hy
    | cons x t ih => intro h y hy; exact ih (fun z hz => h z (by simp [hz])) _ (Nat.or_lt_two_pow hy (h x (by simp)))
  exact key _ (fun x hx => set_lt hx) 0 (by decide)
theorem must_in {s m : Int} {x : Nat} (hx : x ∈ setsN s m) : andn (mustOf (setsN s m)) x = 0 := by
  have hne : setsN s m ≠ [] := fun e => by rw [e] at hx; cases hx
  apply Nat.eq_of_testBit_eq
  intro b
  rw [testBit_andn, Nat.zero_testBit, must_bit hne]
  cases hb : (setsN s m).all (·.testBit b) with
  | false => rfl
  | true => rw [List.all_eq_true] at hb; simp [hb x hx]
theorem must_can {s m : Int} (hne : setsN s m ≠ []) : andn (mustOf (setsN s m)) (canOf (setsN s m)) = 0 := by
  obtain ⟨x, hx⟩ := List.exists_mem_of_ne_nil _ hne
  apply Nat.eq_of_testBit_eq
  intro b
  rw [testBit_andn, Nat.zero_testBit, must_bit hne, can_bit]
  cases hb : (setsN s m).all (·.testBit b) with
  | false => rfl
  | true =>
    rw [List.all_eq_true] at hb
    have : (setsN s m).any (·.testBit b) = true := List.any_eq_true.2 ⟨x, hx, hb x hx⟩
    rw [this]; rfl
theorem must_other {s m : Int} (hne : setsN s m ≠ []) : setsN (45 - s) (9 - m) ≠ [] ∧ mustOf (setsN (45 - s) (9 - m)) = andn 1022 (canOf (setsN s m)) := by
  obtain ⟨x, hx⟩ := List.exists_mem_of_ne_nil _ hne
  have hx' := other_mem hx
  have hne' : setsN (45 - s) (9 - m) ≠ [] := fun e => by rw [e] at hx'; cases hx'
  refine ⟨hne', ?_⟩
  apply Nat.eq_of_testBit_eq
  intro b
  have bit : ∀ y ∈ setsN s m, (1022 - y).testBit b = (Nat.testBit 1022 b && !y.testBit b) := by
    intro y hy
    obtain ⟨⟨i, h1, rfl⟩, _⟩ := set_mem.1 hy
    obtain ⟨h2, h3⟩ := other_xor i h1
    rw [h2, Nat.testBit_xor]
    have : (2 * i).testBit b = ((2 * i).testBit b && Nat.testBit 1022 b) := by
      have := congrArg (fun z => Nat.testBit z b) h3
      simp only [Nat.testBit_and] at this
      exact this.symm
    cases h4 : (2 * i).testBit b <;> cases h5 : Nat.testBit 1022 b <;> simp_all
  rw [must_bit hne', testBit_andn, can_bit, Bool.eq_iff_iff, List.all_eq_true]
  constructor
  · intro h
    have h1 := h _ hx'
    rw [bit x hx] at h1
    simp only [Bool.and_eq_true, Bool.not_eq_true'] at h1 ⊢
    refine ⟨h1.1, ?_⟩
    rw [List.any_eq_false]
    intro y hy
    have h2 := h _ (other_mem hy)
    rw [bit y hy] at h2
    simp at h2
    simp [h2.2]
  · intro h y hy
    simp only [Bool.and_eq_true, Bool.not_eq_true'] at h
    obtain ⟨h1, h2⟩ := h
    rw [List.any_eq_false] at h2
    have hy' := other_mem hy
    rw [show (45 : Int) - (45 - s) = s by omega, show (9 : Int) - (9 - m) = m by omega] at hy'
    have h3 := bit _ hy'
    have h4 := h2 _ hy'
    have hlt : y ≤ 1022 := by
      obtain ⟨⟨i, hi, rfl⟩, _⟩ := set_mem.1 hy
      omega
    rw [show 1022 - (1022 - y) = y by omega] at h3
    rw [h3, h1]; simpa using h4
end Go.Proofs.Ytinockknikfmgaa.Mo
