/- Plain definitions on lists of numbers (what is a valid list of regions, its cells, ..) and plain lemmas on them. No conditions. -/
import Derived.Test.YtdinbpfklikghaaPk
set_option linter.unusedSimpArgs false
set_option linter.unusedVariables false
namespace Go.Proofs.Ytdinbpfklikghaa.Mo

def AllIn (lo hi : Int) (l : List Int) : Prop := ∀ x ∈ l, lo ≤ x ∧ x ≤ hi
instance (lo hi : Int) (l : List Int) : Decidable (AllIn lo hi l) := by unfold AllIn; infer_instance
def SizeOk (s : Int) : Prop := 2 ≤ s ∧ s ≤ 4
instance (s : Int) : Decidable (SizeOk s) := by unfold SizeOk; infer_instance
def SqOk (hi : Int) (l : List Int) (s : Int) : Prop := SizeOk s ∧ (l.length : Int) = s * s ∧ AllIn 0 hi l
instance (hi : Int) (l : List Int) (s : Int) : Decidable (SqOk hi l s) := by unfold SqOk; infer_instance
theorem AllIn.nil (lo hi : Int) : AllIn lo hi [] := fun _ h => by cases h
theorem AllIn.cons {lo hi x : Int} {l : List Int} : AllIn lo hi (x :: l) ↔ (lo ≤ x ∧ x ≤ hi) ∧ AllIn lo hi l := by
 unfold AllIn; simp [List.forall_mem_cons]
theorem SizeOk.cases {s : Int} (h : SizeOk s) : s = 2 ∨ s = 3 ∨ s = 4 := by unfold SizeOk at h; omega
theorem SqOk.len {hi s : Int} {l : List Int} (h : SqOk hi l s) : l.length = s.toNat * s.toNat := by
 obtain ⟨h1, h2, _⟩ := h
 rcases h1.cases with rfl | rfl | rfl <;> simp_all <;> omega
def places (r : Int) : Nat → List Int → List Int
 | _, [] => []
 | i, x :: t => if x = r then (i : Int) :: places r (i + 1) t else places r (i + 1) t
def marks (m : Int) (n : Nat) : List Int := (List.range n).map fun i => m + ((i : Nat) : Int)
@[simp] theorem marks_length (m : Int) (n : Nat) : (marks m n).length = n := by simp [marks]
def boxes : List Int := [0, 0, 1, 1, 0, 0, 1, 1, 2, 2, 3, 3, 2, 2, 3, 3]
def Near (s a c : Int) : Prop := c - a = s ∨ c - a = -s ∨ ((c - a = 1 ∨ c - a = -1) ∧ Int.tdiv c s = Int.tdiv a s)
instance (s a c : Int) : Decidable (Near s a c) := by unfold Near; infer_instance
theorem Near.symm {s a c : Int} (h : Near s a c) : Near s c a := by
 unfold Near at *
 rcases h with h | h | ⟨h, h'⟩
 ·exact .inr (.inl (by omega))
 ·exact .inl (by omega)
 ·exact .inr (.inr ⟨by omega, h'.symm⟩)
def grow (s a : Int) (r : List Int) (c : Int) : List Int := if Near s a c ∧ c ∉ r then r ++ [c] else r
def bfs (s : Int) (cells : List Int) : Nat → Nat → List Int → List Int
 | 0, _, r => r
 | n + 1, i, r => if h : i < r.length then bfs s cells n (i + 1) (cells.foldl (grow s r[i]) r) else r
def Good (cells r : List Int) : Prop := r.Nodup ∧ ∀ c ∈ r, c ∈ cells
theorem nodup_len : ∀ {l m : List Int}, l.Nodup → (∀ c ∈ l, c ∈ m) → l.length ≤ m.length
 | [], _, _, _ => Nat.zero_le _
 | x :: t, m, h, hm => by
  have hx := hm x (by simp)
  have h1 := List.length_erase_of_mem hx
  have hn := List.nodup_cons.1 h
  have := nodup_len (l := t) (m := m.erase x) hn.2 (fun c hc => by
   have hne : c ≠ x := fun e => hn.1 (e ▸ hc)
   exact (List.mem_erase_of_ne hne).2 (hm c (by simp [hc])))
  have hpos : 0 < m.length := List.length_pos_of_mem hx
  simp only [List.length_cons]; omega
theorem Good.len {cells r : List Int} (h : Good cells r) : r.length ≤ cells.length := nodup_len h.1 h.2
theorem Good.all {cells r : List Int} (h : Good cells r) (hl : r.length = cells.length) : ∀ c ∈ cells, c ∈ r := by
 intro c hc
 apply Classical.byContradiction
 intro hn
 have := nodup_len (l := c :: r) (m := cells) (List.nodup_cons.2 ⟨hn, h.1⟩) (fun d hd => by
  rcases List.mem_cons.1 hd with rfl | hd
  ·exact hc
  ·exact h.2 d hd)
 simp at this; omega
theorem Good.grow {cells r : List Int} {s a c : Int} (h : Good cells r) (hc : c ∈ cells) : Good cells (grow s a r c) := by
 unfold Mo.grow
 split
 ·rename_i hh
  refine ⟨?_, fun d hd => ?_⟩
  ·rw [List.nodup_append]
   refine ⟨h.1, by simp, fun x hx y hy e => ?_⟩
   simp at hy; subst hy; subst e; exact hh.2 hx
  ·rcases List.mem_append.1 hd with hd | hd
   ·exact h.2 d hd
   ·simp at hd; rw [hd]; exact hc
 ·exact h
theorem Good.inner {cells : List Int} {s a : Int} : ∀ {cs r : List Int}, (∀ c ∈ cs, c ∈ cells) → Good cells r → Good cells (cs.foldl (Mo.grow s a) r)
 | [], _, _, h => h
 | c :: t, r, hcs, h => Good.inner (cs := t) (fun d hd => hcs d (by simp [hd])) (h.grow (hcs c (by simp)))
theorem Good.bfs {cells : List Int} {s : Int} : ∀ {n i : Nat} {r : List Int}, Good cells r → Good cells (Mo.bfs s cells n i r)
 | 0, _, _, h => h
 | n + 1, i, r, h => by
  unfold Mo.bfs
  split
  ·exact Good.bfs (Good.inner (fun c hc => hc) h)
  ·exact h
def Kin (s : Int) (r : List Int) : Prop := ∀ j, (hj : j < r.length) → 0 < j → ∃ i, ∃ (h : i < r.length), i < j ∧ Near s r[i] r[j]
theorem Kin.grow {s : Int} {r : List Int} {i : Nat} {c a : Int} (hi : i < r.length) (ha : r[i] = a) (h : Kin s r) : Kin s (Mo.grow s a r c) ∧ ∃ h' : i < (Mo.grow s a r c).length, (Mo.grow s a r c)[i] = a := by
 unfold Mo.grow
 split
 ·rename_i hh
  refine ⟨fun j hj h0 => ?_, by simp; omega, by rw [List.getElem_append_left hi]; exact ha⟩
  by_cases hjl : j < r.length
  ·obtain ⟨k, hk, hkj, hn⟩ := h j hjl h0
   refine ⟨k, by simp; omega, hkj, ?_⟩
   rw [List.getElem_append_left hk, List.getElem_append_left hjl]; exact hn
  ·have hj' : j = r.length := by simp at hj; omega
   subst hj'
   refine ⟨i, by simp; omega, hi, ?_⟩
   rw [List.getElem_append_left hi, List.getElem_append_right (by omega)]
   simp [ha]; exact hh.1
 ·exact ⟨h, hi, ha⟩
theorem Kin.inner {s : Int} {i : Nat} {a : Int} : ∀ {cs r : List Int} (hi : i < r.length), r[i] = a → Kin s r → Kin s (cs.foldl (Mo.grow s a) r)
 | [], _, _, _, h => h
 | c :: t, r, hi, ha, h => by
  obtain ⟨h1, h2, h3⟩ := Kin.grow (c := c) hi ha h
  exact Kin.inner (cs := t) h2 h3 h1
theorem Kin.bfs {cells : List Int} {s : Int} : ∀ {n i : Nat} {r : List Int}, Kin s r → Kin s (Mo.bfs s cells n i r)
 | 0, _, _, h => h
 | n + 1, i, r, h => by
  unfold Mo.bfs
  split
  ·rename_i hi
   exact Kin.bfs (Kin.inner hi rfl h)
  ·exact h
def conn (s : Int) (cells : List Int) : Bool := match cells with
 | [] => false
 | c :: t => decide ((bfs s (c :: t) (t.length + 1) 0 [c]).length = t.length + 1)
def kindOk (kd v s : Int) (n : Nat) : Prop :=
 (kd = 1 ∧ 2 ≤ n ∧ n ≤ 4 ∧ v = 0) ∨ ((kd = 2 ∨ kd = 3) ∧ 1 ≤ n ∧ n ≤ 4 ∧ 1 ≤ v ∧ v ≤ s * s * s * s) ∨ (kd = 4 ∧ n = 2 ∧ v = 0) ∨ (kd = 5 ∧ n = 2 ∧ 0 ≤ v ∧ v < s)
instance (kd v s : Int) (n : Nat) : Decidable (kindOk kd v s n) := by unfold kindOk; infer_instance
def RuleOk (kd : Int) (cells : List Int) (v s : Int) : Prop := SizeOk s ∧ cells.Nodup ∧ AllIn 0 (s * s - 1) cells ∧ kindOk kd v s cells.length
instance (kd : Int) (cells : List Int) (v s : Int) : Decidable (RuleOk kd cells v s) := by unfold RuleOk; infer_instance
def seenN (m : Nat) (vs : List Nat) : Nat := vs.foldl (fun m v => m ||| 2 ^ v) m
def square : Int → List Int
 | 2 => [1, 2, 2, 1]
 | 3 => [1, 2, 3, 2, 3, 1, 3, 1, 2]
 | 4 => [1, 2, 3, 4, 2, 3, 4, 1, 3, 4, 1, 2, 4, 1, 2, 3]
 | _ => []
end Go.Proofs.Ytdinbpfklikghaa.Mo
