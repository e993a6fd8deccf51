/- Plain definitions on lists of numbers (what is a valid list of regions, its cells, ..) and plain lemmas on them. No conditions. -/
import Derived.Test.YtncmneliinbjdaaPk
set_option linter.unusedSimpArgs false
set_option linter.unusedVariables false
namespace Go.Proofs.Ytncmneliinbjdaa.Mo

def AllIn (lo hi : Int) (l : List Int) : Prop := ∀ x ∈ l, lo ≤ x ∧ x ≤ hi
instance (lo hi : Int) (l : List Int) : Decidable (AllIn lo hi l) := by unfold AllIn; infer_instance
def SizeOk (s : Int) : Prop := 2 ≤ s ∧ s ≤ 4
instance (s : Int) : Decidable (SizeOk s) := by unfold SizeOk; infer_instance
/-- A list of a square's cells, each in 0..hi. -/
def SqOk (hi : Int) (l : List Int) (s : Int) : Prop := SizeOk s ∧ (l.length : Int) = s * s ∧ AllIn 0 hi l
instance (hi : Int) (l : List Int) (s : Int) : Decidable (SqOk hi l s) := by unfold SqOk; infer_instance
theorem AllIn.nil (lo hi : Int) : AllIn lo hi [] := fun _ h => by cases h
theorem AllIn.cons {lo hi x : Int} {l : List Int} : AllIn lo hi (x :: l) ↔ (lo ≤ x ∧ x ≤ hi) ∧ AllIn lo hi l := by
  unfold AllIn; simp [List.forall_mem_cons]
theorem SizeOk.cases {s : Int} (h : SizeOk s) : s = 2 ∨ s = 3 ∨ s = 4 := by unfold SizeOk at h; omega
theorem SqOk.len {hi s : Int} {l : List Int} (h : SqOk hi l s) : l.length = s.toNat * s.toNat := by
  obtain ⟨h1, h2, _⟩ := h
  rcases h1.cases with rfl | rfl | rfl <;> simp_all <;> omega
theorem SqOk.len16 {hi s : Int} {l : List Int} (h : SqOk hi l s) : l.length ≤ 16 := by
  obtain ⟨h1, h2, _⟩ := h
  rcases h1.cases with rfl | rfl | rfl <;> omega
theorem SqOk.pos {hi s : Int} {l : List Int} (h : SqOk hi l s) : 4 ≤ l.length := by
  obtain ⟨h1, h2, _⟩ := h
  rcases h1.cases with rfl | rfl | rfl <;> omega

/-- The places of a value, from place i on. -/
def places (r : Int) : Nat → List Int → List Int
  | _, [] => []
  | i, x :: t => if x = r then (i : Int) :: places r (i + 1) t else places r (i + 1) t
theorem places_length (r : Int) : ∀ (l : List Int) (i : Nat), (places r i l).length ≤ l.length
  | [], _ => Nat.le_refl _
  | x :: t, i => by
    have := places_length r t (i + 1)
    unfold places; split <;> simp <;> omega
theorem places_none {r : Int} : ∀ {l : List Int} {i : Nat}, (∀ x ∈ l, x ≠ r) → places r i l = []
  | [], _, _ => rfl
  | x :: t, i, h => by
    unfold places
    rw [if_neg (h x (by simp)), places_none (fun y hy => h y (by simp [hy]))]
theorem places_mem {r c : Int} : ∀ {l : List Int} {i : Nat}, c ∈ places r i l → ∃ j, j < l.length ∧ c = ((i + j : Nat) : Int) ∧ l[j]? = some r
  | [], _, h => by cases h
  | x :: t, i, h => by
    unfold places at h
    by_cases e : x = r
    · rw [if_pos e] at h
      rcases List.mem_cons.1 h with h | h
      · exact ⟨0, by simp, by simpa using h, by simp [e]⟩
      · obtain ⟨j, h1, h2, h3⟩ := places_mem h
        exact ⟨j + 1, by simp; omega, by rw [h2]; omega, by simpa using h3⟩
    · rw [if_neg e] at h
      obtain ⟨j, h1, h2, h3⟩ := places_mem h
      exact ⟨j + 1, by simp; omega, by rw [h2]; omega, by simpa using h3⟩
theorem places_sorted (r : Int) : ∀ (l : List Int) (i : Nat), (places r i l).Pairwise (· < ·)
  | [], _ => List.Pairwise.nil
  | x :: t, i => by
    unfold places
    split
    · refine List.Pairwise.cons (fun c hc => ?_) (places_sorted r t (i + 1))
      obtain ⟨j, _, h2, _⟩ := places_mem hc
      omega
    · exact places_sorted r t (i + 1)
/-- m, m + 1, .., n numbers. -/
def marks (m : Int) (n : Nat) : List Int := (List.range n).map fun i => m + ((i : Nat) : Int)
@[simp] theorem marks_length (m : Int) (n : Nat) : (marks m n).length = n := by simp [marks]
theorem marks_succ (m : Int) (n : Nat) : marks m (n + 1) = marks m n ++ [m + n] := by simp [marks, List.range_succ]
def boxes : List Int := [0, 0, 1, 1, 0, 0, 1, 1, 2, 2, 3, 3, 2, 2, 3, 3]
/-! A region's cells, reached from the first one by neighbours. -/
def Near (s a c : Int) : Prop := c - a = s ∨ c - a = -s ∨ ((c - a = 1 ∨ c - a = -1) ∧ Int.tdiv c s = Int.tdiv a s)
instance (s a c : Int) : Decidable (Near s a c) := by unfold Near; infer_instance
theorem Near.symm {s a c : Int} (h : Near s a c) : Near s c a := by
  unfold Near at *
  rcases h with h | h | ⟨h, h'⟩
  · exact .inr (.inl (by omega))
  · exact .inl (by omega)
  · exact .inr (.inr ⟨by omega, h'.symm⟩)
def grow (s a : Int) (r : List Int) (c : Int) : List Int := if Near s a c ∧ c ∉ r then r ++ [c] else r
def bfs (s : Int) (cells : List Int) : Nat → Nat → List Int → List Int
  | 0, _, r => r
  | n + 1, i, r => if h : i < r.length then bfs s cells n (i + 1) (cells.foldl (grow s r[i]) r) else r
def Good (cells r : List Int) : Prop := r.Nodup ∧ ∀ c ∈ r, c ∈ cells
theorem nodup_len : ∀ {l m : List Int}, l.Nodup → (∀ c ∈ l, c ∈ m) → l.length ≤ m.length
  | [], _, _, _ => Nat.zero_le _
  | x :: t, m, h, hm => by
    have hx := hm x (by simp)
    have h1 := List.length_erase_of_mem hx
    have hn := List.nodup_cons.1 h
    have := nodup_len (l := t) (m := m.erase x) hn.2 (fun c hc => by
      have hne : c ≠ x := fun e => hn.1 (e ▸ hc)
      exact (List.mem_erase_of_ne hne).2 (hm c (by simp [hc])))
    have hpos : 0 < m.length := List.length_pos_of_mem hx
    simp only [List.length_cons]; omega
theorem Good.len {cells r : List Int} (h : Good cells r) : r.length ≤ cells.length := nodup_len h.1 h.2
theorem Good.all {cells r : List Int} (h : Good cells r) (hl : r.length = cells.length) : ∀ c ∈ cells, c ∈ r := by
  intro c hc
  apply Classical.byContradiction
  intro hn
  have := nodup_len (l := c :: r) (m := cells) (List.nodup_cons.2 ⟨hn, h.1⟩) (fun d hd => by
    rcases List.mem_cons.1 hd with rfl | hd
    · exact hc
    · exact h.2 d hd)
  simp at this; omega
theorem Good.grow {cells r : List Int} {s a c : Int} (h : Good cells r) (hc : c ∈ cells) : Good cells (grow s a r c) := by
  unfold Mo.grow
  split
  · rename_i hh
    refine ⟨?_, fun d hd => ?_⟩
    · rw [List.nodup_append]
      refine ⟨h.1, by simp, fun x hx y hy e => ?_⟩
      simp at hy; subst hy; subst e; exact hh.2 hx
    · rcases List.mem_append.1 hd with hd | hd
      · exact h.2 d hd
      · simp at hd; rw [hd]; exact hc
  · exact h
theorem Good.inner {cells : List Int} {s a : Int} : ∀ {cs r : List Int}, (∀ c ∈ cs, c ∈ cells) → Good cells r → Good cells (cs.foldl (Mo.grow s a) r)
  | [], _, _, h => h
  | c :: t, r, hcs, h => Good.inner (cs := t) (fun d hd => hcs d (by simp [hd])) (h.grow (hcs c (by simp)))
theorem Good.bfs {cells : List Int} {s : Int} : ∀ {n i : Nat} {r : List Int}, Good cells r → Good cells (Mo.bfs s cells n i r)
  | 0, _, _, h => h
  | n + 1, i, r, h => by
    unfold Mo.bfs
    split
    · exact Good.bfs (Good.inner (fun c hc => hc) h)
    · exact h
/-- Every cell but the first has a neighbour before it. -/
def Kin (s : Int) (r : List Int) : Prop := ∀ j, (hj : j < r.length) → 0 < j → ∃ i, ∃ (h : i < r.length), i < j ∧ Near s r[i] r[j]
theorem Kin.grow {s : Int} {r : List Int} {i : Nat} {c a : Int} (hi : i < r.length) (ha : r[i] = a) (h : Kin s r) : Kin s (Mo.grow s a r c) ∧ ∃ h' : i < (Mo.grow s a r c).length, (Mo.grow s a r c)[i] = a := by
  unfold Mo.grow
  split
  · rename_i hh
    refine ⟨fun j hj h0 => ?_, by simp; omega, by rw [List.getElem_append_left hi]; exact ha⟩
    by_cases hjl : j < r.length
    · obtain ⟨k, hk, hkj, hn⟩ := h j hjl h0
      refine ⟨k, by simp; omega, hkj, ?_⟩
      rw [List.getElem_append_left hk, List.getElem_append_left hjl]; exact hn
    · have hj' : j = r.length := by simp at hj; omega
      subst hj'
      refine ⟨i, by simp; omega, hi, ?_⟩
      rw [List.getElem_append_left hi, List.getElem_append_right (by omega)]
      simp [ha]; exact hh.1
  · exact ⟨h, hi, ha⟩
theorem Kin.inner {s : Int} {i : Nat} {a : Int} : ∀ {cs r : List Int} (hi : i < r.length), r[i] = a → Kin s r → Kin s (cs.foldl (Mo.grow s a) r)
  | [], _, _, _, h => h
  | c :: t, r, hi, ha, h => by
    obtain ⟨h1, h2, h3⟩ := Kin.grow (c := c) hi ha h
    exact Kin.inner (cs := t) h2 h3 h1
theorem Kin.bfs {cells : List Int} {s : Int} : ∀ {n i : Nat} {r : List Int}, Kin s r → Kin s (Mo.bfs s cells n i r)
  | 0, _, _, h => h
  | n + 1, i, r, h => by
    unfold Mo.bfs
    split
    · rename_i hi
      exact Kin.bfs (Kin.inner hi rfl h)
    · exact h
/-- Is a region, whose cells are given, connected? -/
def conn (s : Int) (cells : List Int) : Bool := match cells with
  | [] => false
  | c :: t => decide ((bfs s (c :: t) (t.length + 1) 0 [c]).length = t.length + 1)
theorem conn_near {s : Int} {cells : List Int} (h : conn s cells = true) (h2 : 2 ≤ cells.length) : ∀ c ∈ cells, ∃ d ∈ cells, Near s c d := by
  cases cells with
  | nil => simp at h2
  | cons c0 t =>
    simp only [conn, decide_eq_true_iff] at h
    have hg0 : Good (c0 :: t) [c0] := ⟨by simp, fun c hc => by simp at hc; simp [hc]⟩
    have hg := hg0.bfs (s := s) (n := t.length + 1) (i := 0)
    have hk0 : Kin s [c0] := fun j hj h0 => by simp at hj; omega
    have hk := hk0.bfs (cells := c0 :: t) (n := t.length + 1) (i := 0)
    generalize bfs s (c0 :: t) (t.length + 1) 0 [c0] = r at h hg hk
    intro c hc
    have hcr := hg.all (by simpa using h) c hc
    obtain ⟨j, hj, rfl⟩ := List.getElem_of_mem hcr
    by_cases h0 : 0 < j
    · obtain ⟨i, hi, _, hn⟩ := hk j hj h0
      exact ⟨r[i], hg.2 _ (List.getElem_mem _), hn.symm⟩
    · obtain rfl : j = 0 := by omega
      have h1 : 1 < r.length := by simp at h2; omega
      obtain ⟨i, hi, hij, hn⟩ := hk 1 h1 (by omega)
      obtain rfl : i = 0 := by omega
      exact ⟨r[1], hg.2 _ (List.getElem_mem _), hn⟩
/-! Rules: kind, cells, value. -/
def kindOk (kd v s : Int) (n : Nat) : Prop :=
  (kd = 1 ∧ 2 ≤ n ∧ n ≤ 4 ∧ v = 0) ∨ ((kd = 2 ∨ kd = 3) ∧ 1 ≤ n ∧ n ≤ 4 ∧ 1 ≤ v ∧ v ≤ s * s * s * s) ∨ (kd = 4 ∧ n = 2 ∧ v = 0) ∨ (kd = 5 ∧ n = 2 ∧ 0 ≤ v ∧ v < s)
instance (kd v s : Int) (n : Nat) : Decidable (kindOk kd v s n) := by unfold kindOk; infer_instance
def RuleOk (kd : Int) (cells : List Int) (v s : Int) : Prop := SizeOk s ∧ cells.Nodup ∧ AllIn 0 (s * s - 1) cells ∧ kindOk kd v s cells.length
instance (kd : Int) (cells : List Int) (v s : Int) : Decidable (RuleOk kd cells v s) := by unfold RuleOk; infer_instance
theorem take_nodup (l : List Int) (i : Nat) (hi : i < l.length) : (l.take (i + 1)).Nodup ↔ (l.take i).Nodup ∧ l[i] ∉ l.take i := by
  rw [List.take_succ_eq_append_getElem hi, List.nodup_append]
  constructor
  · rintro ⟨h1, _, h3⟩
    exact ⟨h1, fun hm => h3 _ hm _ (by simp) rfl⟩
  · rintro ⟨h1, h2⟩
    exact ⟨h1, by simp, fun a ha b hb e => by simp at hb; subst hb; exact h2 (e ▸ ha)⟩
theorem take_allIn (lo hi : Int) (l : List Int) (i : Nat) (h : i < l.length) : AllIn lo hi (l.take (i + 1)) ↔ AllIn lo hi (l.take i) ∧ lo ≤ l[i] ∧ l[i] ≤ hi := by
  rw [List.take_succ_eq_append_getElem h]
  unfold AllIn
  constructor
  · intro hh
    exact ⟨fun x hx => hh x (List.mem_append_left _ hx), hh _ (List.mem_append_right _ (List.mem_singleton.2 rfl))⟩
  · rintro ⟨h1, h2⟩ x hx
    rcases List.mem_append.1 hx with hx | hx
    · exact h1 x hx
    · simp at hx; rw [hx]; exact h2
theorem nodup_of_take {l : List Int} (h : ∀ i, (hi : i < l.length) → l[i] ∉ l.take i) : l.Nodup := by
  have : ∀ i, i ≤ l.length → (l.take i).Nodup := by
    intro i
    induction i with
    | zero => intro _; simp
    | succ i ih => intro hi; rw [take_nodup l i (by omega)]; exact ⟨ih (by omega), h i (by omega)⟩
  simpa using this l.length (Nat.le_refl _)
/-! Values seen, as a mask. -/
def seenN (m : Nat) (vs : List Nat) : Nat := vs.foldl (fun m v => m ||| 2 ^ v) m
theorem seenN_lt : ∀ (vs : List Nat) (m : Nat), m < 2 ^ 32 → (∀ v ∈ vs, v < 32) → seenN m vs < 2 ^ 32
  | [], m, h, _ => h
  | v :: t, m, h, hv => by
    have h1 := hv v (by simp)
    have h2 : 2 ^ v < 2 ^ 32 := Nat.pow_lt_pow_right (by omega) h1
    exact seenN_lt t _ (Nat.or_lt_two_pow h h2) (fun x hx => hv x (by simp [hx]))
theorem or_bit (m v b : Nat) : (m ||| 2 ^ v).testBit b = (m.testBit b || decide (v = b)) := by
  rw [Nat.testBit_or, Nat.testBit_two_pow]
def square : Int → List Int
  | 2 => [1, 2, 2, 1]
  | 3 => [1, 2, 3, 2, 3, 1, 3, 1, 2]
  | 4 => [1, 2, 3, 4, 2, 3, 4, 1, 3, 4, 1, 2, 4, 1, 2, 3]
  | _ => []
theorem square_ok {s : Int} (h : SizeOk s) : SqOk s (square s) s ∧ ∀ x ∈ square s, 1 ≤ x ∧ x ≤ 4 := by
  rcases h.cases with rfl | rfl | rfl <;> decide
end Go.Proofs.Ytncmneliinbjdaa.Mo
