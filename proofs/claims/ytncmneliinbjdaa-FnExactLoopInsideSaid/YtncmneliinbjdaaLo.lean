/- Plain definitions on fields of edges (what is a valid one, its edges), and plain lemmas on them. No conditions. -/
import Derived.Test.YtncmneliinbjdaaMo
set_option linter.unusedSimpArgs false
set_option linter.unusedVariables false
namespace Go.Proofs.Ytncmneliinbjdaa.Mo
open Go.RowKit Go.Proofs.Ytncmneliinbjdaa.Pk Go.Proofs.YtncmneliinbjdaaW.PrintWords

def Lens (n : Int) (l : List (List Bool)) : Prop := ∀ x ∈ l, (x.length : Int) = n
instance (n : Int) (l : List (List Bool)) : Decidable (Lens n l) := by unfold Lens; infer_instance
theorem Lens.nil (n : Int) : Lens n [] := fun _ h => by cases h
theorem Lens.cons {n : Int} {x : List Bool} {l : List (List Bool)} : Lens n (x :: l) ↔ (x.length : Int) = n ∧ Lens n l := by
  unfold Lens; simp [List.forall_mem_cons]
/-- A field of edges: R rows and C columns of cells, R + 1 rows with C edges each, C + 1 columns with R edges each. -/
def FieldOk (R C : Int) (A D : List (List Bool)) : Prop :=
  (1 ≤ R ∧ R ≤ 4) ∧ (1 ≤ C ∧ C ≤ 4) ∧ (A.length : Int) = R + 1 ∧ (D.length : Int) = C + 1 ∧ Lens C A ∧ Lens R D
instance (R C : Int) (A D : List (List Bool)) : Decidable (FieldOk R C A D) := by unfold FieldOk; infer_instance
def Short (l : List (List Bool)) : Prop := l.length ≤ 1048576 ∧ ∀ x ∈ l, x.length ≤ 1048576
theorem getD_mem (l : List (List Bool)) (i : Nat) (h : i < l.length) : l.getD i [] = l[i] := by
  simp [h]
/-! Sums. -/
def sm : Nat → (Nat → Nat) → Nat
  | 0, _ => 0
  | n + 1, f => sm n f + f n
theorem sm_congr {f g : Nat → Nat} : ∀ (n : Nat), (∀ i, i < n → f i = g i) → sm n f = sm n g
  | 0, _ => rfl
  | n + 1, h => by rw [sm, sm, sm_congr n (fun i hi => h i (by omega)), h n (by omega)]
theorem sm_zero : ∀ (n : Nat), sm n (fun _ => 0) = 0
  | 0 => rfl
  | n + 1 => by rw [sm, sm_zero n]
theorem sm_add (f g : Nat → Nat) : ∀ (n : Nat), sm n (fun i => f i + g i) = sm n f + sm n g
  | 0 => rfl
  | n + 1 => by rw [sm, sm, sm, sm_add f g n]; omega
theorem sm_head (f : Nat → Nat) : ∀ (n : Nat), sm (n + 1) f = f 0 + sm n (fun i => f (i + 1))
  | 0 => by simp [sm]
  | n + 1 => by rw [sm, sm_head f n, sm]; omega
theorem sm_shift (f : Nat → Nat) (n : Nat) : sm (n + 1) (fun c => if c = 0 then 0 else f (c - 1)) = sm n f := by
  rw [sm_head]; simp
theorem sm_comm (f : Nat → Nat → Nat) (m : Nat) : ∀ (n : Nat), sm n (fun i => sm m (fun j => f i j)) = sm m (fun j => sm n (fun i => f i j))
  | 0 => by simp [sm, sm_zero]
  | n + 1 => by rw [sm, sm_comm f m n, ← sm_add]; rfl
theorem sm_le {f g : Nat → Nat} : ∀ (n : Nat), (∀ i, i < n → f i ≤ g i) → sm n f ≤ sm n g
  | 0, _ => Nat.le_refl _
  | n + 1, h => by have := sm_le n (fun i hi => h i (by omega)); have := h n (by omega); simp only [sm]; omega
theorem sm_const (k : Nat) : ∀ (n : Nat), sm n (fun _ => k) = n * k
  | 0 => by simp [sm]
  | n + 1 => by rw [sm, sm_const k n, Nat.succ_mul]
theorem sm_ge (f : Nat → Nat) : ∀ (n i : Nat), i < n → f i ≤ sm n f
  | 0, _, h => by omega
  | n + 1, i, h => by
    simp only [sm]
    by_cases e : i = n
    · subst e; omega
    · have := sm_ge f n i (by omega); omega
def b2 (b : Bool) : Nat := if b then 1 else 0
theorem b2_le (b : Bool) : b2 b ≤ 1 := by cases b <;> decide
/-- Edge c of row r. -/
def ga (l : List (List Bool)) (r c : Nat) : Bool := (l.getD r []).getD c false
def na (n m : Nat) (l : List (List Bool)) : Nat := sm n (fun i => sm m (fun j => b2 (ga l i j)))
theorem na_le (n m : Nat) (l : List (List Bool)) : na n m l ≤ n * m := by
  have h : ∀ i, i < n → sm m (fun j => b2 (ga l i j)) ≤ m := fun i _ => by
    have := sm_le m (f := fun j => b2 (ga l i j)) (g := fun _ => 1) (fun j _ => b2_le _)
    rwa [sm_const, Nat.mul_one] at this
  have := sm_le n h
  rw [sm_const] at this
  exact this
def nEdges (R C : Nat) (A D : List (List Bool)) : Nat := na (R + 1) C A + na (C + 1) R D
/-- How many edges the point (r, c) has. -/
def deg (A D : List (List Bool)) (r c : Nat) : Nat :=
  b2 (ga A r c) + (if c = 0 then 0 else b2 (ga A r (c - 1))) + b2 (ga D c r) + (if r = 0 then 0 else b2 (ga D c (r - 1)))
theorem deg_le (A D : List (List Bool)) (r c : Nat) : deg A D r c ≤ 4 := by
  unfold deg
  have := b2_le (ga A r c); have := b2_le (ga A r (c - 1)); have := b2_le (ga D c r); have := b2_le (ga D c (r - 1))
  split <;> split <;> omega
/-- A field with its numbers as natural ones. -/
structure Fld (R C : Nat) (A D : List (List Bool)) : Prop where
  hR : 1 ≤ R ∧ R ≤ 4
  hC : 1 ≤ C ∧ C ≤ 4
  lA : A.length = R + 1
  lD : D.length = C + 1
  rA : ∀ r, r < R + 1 → (A.getD r []).length = C
  rD : ∀ c, c < C + 1 → (D.getD c []).length = R
theorem FieldOk.fld {R C : Int} {A D : List (List Bool)} (h : FieldOk R C A D) : ∃ R' C' : Nat, R = R' ∧ C = C' ∧ Fld R' C' A D := by
  obtain ⟨⟨r1, r2⟩, ⟨c1, c2⟩, hA, hD, hLA, hLD⟩ := h
  obtain ⟨R', rfl⟩ := Int.eq_ofNat_of_zero_le (show 0 ≤ R by omega)
  obtain ⟨C', rfl⟩ := Int.eq_ofNat_of_zero_le (show 0 ≤ C by omega)
  refine ⟨R', C', rfl, rfl, ⟨by omega, by omega⟩, ⟨by omega, by omega⟩, by omega, by omega, fun r hr => ?_, fun c hc => ?_⟩
  · have h1 : r < A.length := by omega
    have := hLA _ (List.getElem_mem h1)
    rw [getD_mem A r h1]; omega
  · have h1 : c < D.length := by omega
    have := hLD _ (List.getElem_mem h1)
    rw [getD_mem D c h1]; omega
theorem Fld.ok {R C : Nat} {A D : List (List Bool)} (h : Fld R C A D) : FieldOk R C A D := by
  have := h.hR; have := h.hC; have hA := h.lA; have hD := h.lD
  refine ⟨by omega, by omega, by omega, by omega, fun x hx => ?_, fun x hx => ?_⟩
  · obtain ⟨i, hi, rfl⟩ := List.getElem_of_mem hx
    have := h.rA i (by omega)
    rw [getD_mem A i hi] at this; omega
  · obtain ⟨i, hi, rfl⟩ := List.getElem_of_mem hx
    have := h.rD i (by omega)
    rw [getD_mem D i hi] at this; omega
theorem Fld.a0 {R C : Nat} {A D : List (List Bool)} (h : Fld R C A D) (r c : Nat) (hh : R < r ∨ C ≤ c) : ga A r c = false := by
  unfold ga
  by_cases hr : r < R + 1
  · have := h.rA r hr
    rw [List.getD_eq_getElem?_getD, List.getElem?_eq_none (by omega)]; rfl
  · have hl := h.lA
    have : A.getD r [] = [] := by rw [List.getD_eq_getElem?_getD, List.getElem?_eq_none (by omega)]; rfl
    rw [this]; rfl
theorem Fld.d0 {R C : Nat} {A D : List (List Bool)} (h : Fld R C A D) (c r : Nat) (hh : C < c ∨ R ≤ r) : ga D c r = false := by
  unfold ga
  by_cases hc : c < C + 1
  · have := h.rD c hc
    rw [List.getD_eq_getElem?_getD, List.getElem?_eq_none (by omega)]; rfl
  · have hl := h.lD
    have : D.getD c [] = [] := by rw [List.getD_eq_getElem?_getD, List.getElem?_eq_none (by omega)]; rfl
    rw [this]; rfl
theorem Fld.na_le {R C : Nat} {A D : List (List Bool)} (h : Fld R C A D) : nEdges R C A D ≤ 40 := by
  have h1 := Mo.na_le (R + 1) C A
  have h2 := Mo.na_le (C + 1) R D
  have := h.hR; have := h.hC
  have a : (R + 1) * C ≤ 5 * 4 := Nat.mul_le_mul (by omega) (by omega)
  have b : (C + 1) * R ≤ 5 * 4 := Nat.mul_le_mul (by omega) (by omega)
  unfold nEdges; omega
/-- All degrees together count every edge twice. -/
theorem Fld.hands {R C : Nat} {A D : List (List Bool)} (h : Fld R C A D) : sm (R + 1) (fun r => sm (C + 1) (fun c => deg A D r c)) = 2 * nEdges R C A D := by
  have e1 : ∀ r, sm (C + 1) (fun c => deg A D r c) = sm (C + 1) (fun c => b2 (ga A r c)) + sm C (fun c => b2 (ga A r c)) + sm (C + 1) (fun c => b2 (ga D c r)) + sm (C + 1) (fun c => if r = 0 then 0 else b2 (ga D c (r - 1))) := by
    intro r
    rw [← sm_shift (fun c => b2 (ga A r c)) C, ← sm_add, ← sm_add, ← sm_add]
    rfl
  rw [sm_congr (R + 1) (fun r _ => e1 r), sm_add, sm_add, sm_add]
  have e2 : ∀ r, sm (C + 1) (fun c => b2 (ga A r c)) = sm C (fun c => b2 (ga A r c)) := by
    intro r; rw [sm, h.a0 r C (.inr (Nat.le_refl _))]; rfl
  rw [sm_congr (R + 1) (fun r _ => e2 r)]
  have e3 : sm (R + 1) (fun r => sm (C + 1) (fun c => b2 (ga D c r))) = na (C + 1) R D := by
    rw [sm_comm]
    unfold na
    apply sm_congr
    intro c _
    rw [sm, h.d0 c R (.inr (Nat.le_refl _))]; rfl
  have e4 : sm (R + 1) (fun r => sm (C + 1) (fun c => if r = 0 then 0 else b2 (ga D c (r - 1)))) = na (C + 1) R D := by
    rw [sm_comm]
    unfold na
    apply sm_congr
    intro c _
    exact sm_shift (fun r => b2 (ga D c r)) R
  rw [e3, e4]
  unfold nEdges
  show na (R + 1) C A + na (R + 1) C A + na (C + 1) R D + na (C + 1) R D = _
  omega
/-! The edges as pairs of points. -/
def rowE (f : Nat → Int × Int) : Nat → List Bool → List (Int × Int)
  | _, [] => []
  | i, b :: t => if b = true then f i :: rowE f (i + 1) t else rowE f (i + 1) t
def rowsE (f : Nat → Nat → Int × Int) : Nat → List (List Bool) → List (Int × Int)
  | _, [] => []
  | i, x :: t => rowE (f i) 0 x ++ rowsE f (i + 1) t
def edges (w : Int) (A D : List (List Bool)) : List (Int × Int) :=
  rowsE (fun r c => ((r : Int) * w + c, (r : Int) * w + c + 1)) 0 A ++ rowsE (fun c r => ((r : Int) * w + c, ((r : Int) + 1) * w + c)) 0 D
theorem rowE_length (f : Nat → Int × Int) : ∀ (l : List Bool) (i : Nat), (rowE f i l).length = sm l.length (fun j => b2 (l.getD j false))
  | [], _ => rfl
  | b :: t, i => by
    have ih := rowE_length f t (i + 1)
    rw [List.length_cons, sm_head]
    have e : sm t.length (fun j => b2 ((b :: t).getD (j + 1) false)) = sm t.length (fun j => b2 (t.getD j false)) := sm_congr _ (fun j _ => by simp)
    rw [e, ← ih, rowE]
    cases b <;> simp [b2] <;> omega
theorem rowsE_length (f : Nat → Nat → Int × Int) (m : Nat) : ∀ (l : List (List Bool)) (i : Nat), (∀ x ∈ l, x.length = m) → (rowsE f i l).length = na l.length m l
  | [], _, _ => rfl
  | x :: t, i, h => by
    have ih := rowsE_length f m t (i + 1) (fun y hy => h y (List.mem_cons_of_mem _ hy))
    unfold na at ih ⊢
    rw [List.length_cons, sm_head]
    have e : sm t.length (fun i => sm m (fun j => b2 (ga (x :: t) (i + 1) j))) = sm t.length (fun i => sm m (fun j => b2 (ga t i j))) := sm_congr _ (fun j _ => by simp [ga])
    rw [e, ← ih, rowsE, List.length_append, rowE_length, h x (List.mem_cons_self ..)]
    rfl
theorem Fld.edges_length {R C : Nat} {A D : List (List Bool)} (h : Fld R C A D) (w : Int) : (edges w A D).length = nEdges R C A D := by
  unfold edges nEdges
  rw [List.length_append, rowsE_length _ C A 0 (fun x hx => ?_), rowsE_length _ R D 0 (fun x hx => ?_), h.lA, h.lD]
  · obtain ⟨i, hi, rfl⟩ := List.getElem_of_mem hx
    have := h.rD i (by have := h.lD; omega)
    rwa [getD_mem D i hi] at this
  · obtain ⟨i, hi, rfl⟩ := List.getElem_of_mem hx
    have := h.rA i (by have := h.lA; omega)
    rwa [getD_mem A i hi] at this
/-! The edges around cells. -/
def mk (n m : Nat) (f : Nat → Nat → Bool) : List (List Bool) := (List.range n).map fun i => (List.range m).map (f i)
def arA (R C : Nat) (l : List Bool) (r c : Nat) : Bool := (decide (0 < r) && l.getD ((r - 1) * C + c) false) != (decide (r < R) && l.getD (r * C + c) false)
def arD (R C : Nat) (l : List Bool) (c r : Nat) : Bool := (decide (0 < c) && l.getD (r * C + c - 1) false) != (decide (c < C) && l.getD (r * C + c) false)
def Around (R C : Int) (l : List Bool) : Prop := (1 ≤ R ∧ R ≤ 4) ∧ (1 ≤ C ∧ C ≤ 4) ∧ (l.length : Int) = R * C
instance (R C : Int) (l : List Bool) : Decidable (Around R C l) := by unfold Around; infer_instance
def around (R C : Int) (l : List Bool) : Int × Int × (List (List Bool)) × (List (List Bool)) :=
  if Around R C l then (R, C, mk (R.toNat + 1) C.toNat (arA R.toNat C.toNat l), mk (C.toNat + 1) R.toNat (arD R.toNat C.toNat l)) else (0, 0, [], [])
theorem mk_length (n m : Nat) (f : Nat → Nat → Bool) : (mk n m f).length = n := by simp [mk]
theorem mk_rows (n m : Nat) (f : Nat → Nat → Bool) : ∀ x ∈ mk n m f, x.length = m := by
  intro x h
  unfold mk at h
  obtain ⟨i, _, rfl⟩ := List.mem_map.1 h
  simp
theorem ix (r C c : Nat) (h : r ≤ 4) (hC : C ≤ 4) (hc : c ≤ 4) : wrap64 (wrap64 ((r : Int) * (C : Int)) + (c : Int)) = ((r * C + c : Nat) : Int) := by
  have h1 : (r : Int) * (C : Int) = ((r * C : Nat) : Int) := by simp
  have h2 : r * C ≤ 4 * 4 := Nat.mul_le_mul h hC
  rw [h1, w64 (n := ((r * C : Nat) : Int)) (by omega) (by omega), w64 (by omega) (by omega)]; omega
theorem ix0 (R C : Nat) (h : R ≤ 4) (hC : C ≤ 4) : wrap64 ((R : Int) * (C : Int)) = ((R * C : Nat) : Int) := by
  have h1 : (R : Int) * (C : Int) = ((R * C : Nat) : Int) := by simp
  have h2 : R * C ≤ 4 * 4 := Nat.mul_le_mul h hC
  rw [h1, w64 (n := ((R * C : Nat) : Int)) (by omega) (by omega)]
theorem ix_lt {r R C c : Nat} (h : r < R) (hc : c < C) : r * C + c < R * C := by
  have := Nat.mul_le_mul_right C (show r + 1 ≤ R from h)
  rw [Nat.succ_mul] at this
  omega
/-- A list of rows as it is drawn. -/
def Small (l : List (List Bool)) : Prop := (1 ≤ l.length ∧ l.length ≤ 5) ∧ ∀ x ∈ l, x.length ≤ 4
theorem Small.set_ {l : List (List Bool)} (h : Small l) (i j : Nat) (v : Bool) (hi : i < l.length) : Small (l.set i ((l[i]).set j v)) := by
  refine ⟨by simpa using h.1, fun x hx => ?_⟩
  rcases List.mem_or_eq_of_mem_set hx with hx | rfl
  · exact h.2 x hx
  · rw [List.length_set]; exact h.2 _ (List.getElem_mem hi)
theorem Small.mk_ {n m : Nat} (f : Nat → Nat → Bool) (h : 1 ≤ n ∧ n ≤ 5) (hm : m ≤ 4) : Small (mk n m f) :=
  ⟨by rw [mk_length]; exact h, fun x hx => by rw [mk_rows n m f x hx]; exact hm⟩
/-! Clues. -/
def cntB : List Bool → Nat
  | [] => 0
  | b :: t => b2 b + cntB t
def clue (A D : List (List Bool)) (r c : Nat) : Nat := b2 (ga A r c) + b2 (ga A (r + 1) c) + b2 (ga D c r) + b2 (ga D (c + 1) r)
theorem clue_le (A D : List (List Bool)) (r c : Nat) : clue A D r c ≤ 4 := by
  unfold clue
  have := b2_le (ga A r c); have := b2_le (ga A (r + 1) c); have := b2_le (ga D c r); have := b2_le (ga D (c + 1) r)
  omega
/-- The clue of the cell with the number i. -/
def cl (C : Nat) (A D : List (List Bool)) (i : Nat) : Nat := clue A D (i / C) (i % C)
def clues (R C : Nat) (A D : List (List Bool)) : List Int := (List.range (R * C)).map fun i => (cl C A D i : Int)
theorem cl_at {C : Nat} (A D : List (List Bool)) (r c : Nat) (hc : c < C) : cl C A D (r * C + c) = clue A D r c := by
  unfold cl
  have h1 : (r * C + c) / C = r := by
    rw [Nat.mul_comm, Nat.mul_add_div (by omega), Nat.div_eq_of_lt hc]; rfl
  have h2 : (r * C + c) % C = c := by
    rw [Nat.mul_comm, Nat.mul_add_mod, Nat.mod_eq_of_lt hc]
  rw [h1, h2]
theorem sm_split (f : Nat → Nat) (a : Nat) : ∀ b, sm (a + b) f = sm a f + sm b (fun i => f (a + i))
  | 0 => rfl
  | b + 1 => by
    show sm ((a + b) + 1) f = _
    rw [sm, sm, sm_split f a b]; omega
theorem sm_cells (C : Nat) (A D : List (List Bool)) : ∀ R, sm (R * C) (cl C A D) = sm R (fun r => sm C (fun c => clue A D r c))
  | 0 => by rw [Nat.zero_mul]; rfl
  | R + 1 => by
    rw [Nat.succ_mul, sm_split, sm_cells C A D R, sm]
    congr 1
    exact sm_congr C (fun c hc => cl_at A D R c hc)
theorem sm_two (a : Nat → Nat) (n : Nat) : sm n a + sm n (fun i => a (i + 1)) + (a 0 + a n) = 2 * sm (n + 1) a := by
  have h1 := sm_head a n
  have h2 : sm (n + 1) a = sm n a + a n := rfl
  omega
/-- The edges at the border. -/
def bordA (R C : Nat) (A : List (List Bool)) : Nat := sm C (fun c => b2 (ga A 0 c) + b2 (ga A R c))
theorem sm_clues (R C : Nat) (A D : List (List Bool)) : sm (R * C) (cl C A D) + (bordA R C A + bordA C R D) = 2 * nEdges R C A D := by
  rw [sm_cells]
  have e : sm R (fun r => sm C (fun c => clue A D r c)) = sm R (fun r => sm C (fun c => b2 (ga A r c))) + sm R (fun r => sm C (fun c => b2 (ga A (r + 1) c))) + sm C (fun c => sm R (fun r => b2 (ga D c r))) + sm C (fun c => sm R (fun r => b2 (ga D (c + 1) r))) := by
    rw [← sm_comm (fun i j => b2 (ga D j i)) C R, ← sm_comm (fun i j => b2 (ga D (j + 1) i)) C R, ← sm_add, ← sm_add, ← sm_add]
    refine sm_congr R (fun r _ => ?_)
    rw [← sm_add, ← sm_add, ← sm_add]; rfl
  rw [e]
  have h1 := sm_two (fun r => sm C (fun c => b2 (ga A r c))) R
  have h2 := sm_two (fun c => sm R (fun r => b2 (ga D c r))) C
  have h3 : bordA R C A = sm C (fun c => b2 (ga A 0 c)) + sm C (fun c => b2 (ga A R c)) := sm_add _ _ _
  have h4 : bordA C R D = sm R (fun c => b2 (ga D 0 c)) + sm R (fun c => b2 (ga D C c)) := sm_add _ _ _
  have h5 : nEdges R C A D = sm (R + 1) (fun i => sm C (fun j => b2 (ga A i j))) + sm (C + 1) (fun i => sm R (fun j => b2 (ga D i j))) := rfl
  omega
theorem bordA_le (R C : Nat) (A : List (List Bool)) : bordA R C A ≤ C * 2 := by
  have := sm_le C (f := fun c => b2 (ga A 0 c) + b2 (ga A R c)) (g := fun _ => 2) (fun c _ => by have := b2_le (ga A 0 c); have := b2_le (ga A R c); omega)
  rwa [sm_const] at this
theorem clues_length (R C : Nat) (A D : List (List Bool)) : (clues R C A D).length = R * C := by simp [clues]
theorem clues_get (R C : Nat) (A D : List (List Bool)) (i : Nat) (h : i < R * C) : rd (clues R C A D) (i : Int) = (cl C A D i : Int) := by
  rw [rd_nat _ i (by rw [clues_length]; exact h)]; simp [clues]
/-- Which points are joined by edges. -/
inductive Rc (es : List (Int × Int)) (p : Int) : Int → Prop
  | refl : Rc es p p
  | fwd {q r : Int} : Rc es p q → (q, r) ∈ es → Rc es p r
  | bwd {q r : Int} : Rc es p q → (r, q) ∈ es → Rc es p r
theorem Rc.trans {es : List (Int × Int)} {p q r : Int} (h : Rc es p q) (h' : Rc es q r) : Rc es p r := by
  induction h' with
  | refl => exact h
  | fwd _ he ih => exact ih.fwd he
  | bwd _ he ih => exact ih.bwd he
theorem Rc.symm {es : List (Int × Int)} {p q : Int} (h : Rc es p q) : Rc es q p := by
  induction h with
  | refl => exact .refl
  | fwd _ he ih => exact (Rc.bwd .refl he).trans ih
  | bwd _ he ih => exact (Rc.fwd .refl he).trans ih
theorem Rc.mono {es es' : List (Int × Int)} (hs : ∀ e ∈ es, e ∈ es') {p q : Int} (h : Rc es p q) : Rc es' p q := by
  induction h with
  | refl => exact .refl
  | fwd _ he ih => exact ih.fwd (hs _ he)
  | bwd _ he ih => exact ih.bwd (hs _ he)

theorem mem_rowE (f : Nat → Int × Int) (e : Int × Int) : ∀ (l : List Bool) (i : Nat), e ∈ rowE f i l ↔ ∃ j, l.getD j false = true ∧ e = f (i + j)
  | [], i => by simp [rowE]
  | b :: t, i => by
    have ih := mem_rowE f e t (i + 1)
    rw [rowE]
    constructor
    · intro h
      cases b with
      | true =>
        rw [if_pos rfl] at h
        rcases List.mem_cons.1 h with h | h
        · exact ⟨0, rfl, h⟩
        · obtain ⟨j, h1, h2⟩ := ih.1 h
          exact ⟨j + 1, by simpa using h1, by rw [h2]; congr 1; omega⟩
      | false =>
        rw [if_neg (by simp)] at h
        obtain ⟨j, h1, h2⟩ := ih.1 h
        exact ⟨j + 1, by simpa using h1, by rw [h2]; congr 1; omega⟩
    · rintro ⟨j, h1, h2⟩
      cases j with
      | zero =>
        have hb : b = true := h1
        subst hb
        rw [if_pos rfl]; exact List.mem_cons.2 (.inl h2)
      | succ j =>
        have := ih.2 ⟨j, by simpa using h1, by rw [h2]; congr 1; omega⟩
        cases b with
        | true => rw [if_pos rfl]; exact List.mem_cons_of_mem _ this
        | false => rw [if_neg (by simp)]; exact this
theorem mem_rowsE (f : Nat → Nat → Int × Int) (e : Int × Int) : ∀ (l : List (List Bool)) (i : Nat), e ∈ rowsE f i l ↔ ∃ r c, ga l r c = true ∧ e = f (i + r) c
  | [], i => by simp [rowsE, ga]
  | x :: t, i => by
    have ih := mem_rowsE f e t (i + 1)
    rw [rowsE, List.mem_append, mem_rowE, ih]
    constructor
    · rintro (⟨j, h1, h2⟩ | ⟨r, c, h1, h2⟩)
      · exact ⟨0, j, h1, by rw [h2]; congr 1; omega⟩
      · exact ⟨r + 1, c, by simpa [ga] using h1, by rw [h2]; congr 1; omega⟩
    · rintro ⟨r, c, h1, h2⟩
      cases r with
      | zero => exact .inl ⟨c, h1, by rw [h2]; congr 1; omega⟩
      | succ r => exact .inr ⟨r, c, by simpa [ga] using h1, by rw [h2]; congr 1; omega⟩
theorem mem_edges (w : Int) (A D : List (List Bool)) (e : Int × Int) : e ∈ edges w A D ↔
    (∃ r c : Nat, ga A r c = true ∧ e = ((r : Int) * w + c, (r : Int) * w + c + 1)) ∨ (∃ c r : Nat, ga D c r = true ∧ e = ((r : Int) * w + c, ((r : Int) + 1) * w + c)) := by
  unfold edges
  rw [List.mem_append, mem_rowsE, mem_rowsE]
  simp only [Nat.zero_add]
def cnt : List (Int × Int) → Int → Nat
  | [], _ => 0
  | e :: t, p => (if e.1 = p then 1 else 0) + (if e.2 = p then 1 else 0) + cnt t p
theorem cnt_append (p : Int) : ∀ (a b : List (Int × Int)), cnt (a ++ b) p = cnt a p + cnt b p
  | [], b => by simp [cnt]
  | e :: t, b => by rw [List.cons_append, cnt, cnt, cnt_append p t b]; omega
theorem cnt_pos (p : Int) : ∀ (es : List (Int × Int)), cnt es p ≠ 0 ↔ ∃ e ∈ es, e.1 = p ∨ e.2 = p
  | [] => by simp [cnt]
  | d :: t => by
    have ih := cnt_pos p t
    rw [cnt]
    constructor
    · intro h
      by_cases h1 : d.1 = p
      · exact ⟨d, List.mem_cons_self .., .inl h1⟩
      · by_cases h2 : d.2 = p
        · exact ⟨d, List.mem_cons_self .., .inr h2⟩
        · rw [if_neg h1, if_neg h2] at h
          obtain ⟨e, he, h3⟩ := ih.1 (by omega)
          exact ⟨e, List.mem_cons_of_mem _ he, h3⟩
    · rintro ⟨e, he, h3⟩
      rcases List.mem_cons.1 he with rfl | he
      · rcases h3 with h3 | h3 <;> rw [if_pos h3] <;> omega
      · have := ih.2 ⟨e, he, h3⟩; omega
def hit (e : Int × Int) (p : Int) : Nat := (if e.1 = p then 1 else 0) + (if e.2 = p then 1 else 0)
theorem cnt_rowE (f : Nat → Int × Int) (p : Int) : ∀ (l : List Bool) (i : Nat), cnt (rowE f i l) p = sm l.length (fun j => b2 (l.getD j false) * hit (f (i + j)) p)
  | [], _ => rfl
  | b :: t, i => by
    have ih := cnt_rowE f p t (i + 1)
    rw [List.length_cons, sm_head]
    have e : sm t.length (fun j => b2 ((b :: t).getD (j + 1) false) * hit (f (i + (j + 1))) p) = sm t.length (fun j => b2 (t.getD j false) * hit (f (i + 1 + j)) p) :=
      sm_congr _ (fun j _ => by rw [show i + (j + 1) = i + 1 + j by omega]; simp)
    rw [e, ← ih, rowE]
    cases b with
    | true => rw [if_pos rfl, cnt]; simp [b2, hit]
    | false => rw [if_neg (by simp)]; simp [b2]
theorem cnt_rowsE (f : Nat → Nat → Int × Int) (m : Nat) (p : Int) : ∀ (l : List (List Bool)) (i : Nat), (∀ x ∈ l, x.length = m) → cnt (rowsE f i l) p = sm l.length (fun r => sm m (fun c => b2 (ga l r c) * hit (f (i + r) c) p))
  | [], _, _ => rfl
  | x :: t, i, h => by
    have ih := cnt_rowsE f m p t (i + 1) (fun y hy => h y (List.mem_cons_of_mem _ hy))
    rw [List.length_cons, sm_head]
    have e : sm t.length (fun r => sm m (fun c => b2 (ga (x :: t) (r + 1) c) * hit (f (i + (r + 1)) c) p)) = sm t.length (fun r => sm m (fun c => b2 (ga t r c) * hit (f (i + 1 + r) c) p)) :=
      sm_congr _ (fun j _ => by rw [show i + (j + 1) = i + 1 + j by omega]; simp [ga])
    rw [e, ← ih, rowsE, cnt_append, cnt_rowE, h x (List.mem_cons_self ..)]
    simp only [Nat.zero_add, Nat.add_zero]
    rfl
theorem sm_pick (g : Nat → Nat) (a : Nat) : ∀ n, sm n (fun i => if i = a then g i else 0) = if a < n then g a else 0
  | 0 => rfl
  | n + 1 => by
    rw [sm, sm_pick g a n]
    by_cases h : a < n
    · rw [if_pos h, if_neg (show ¬ n = a by omega), if_pos (show a < n + 1 by omega)]; rfl
    · rw [if_neg h]
      by_cases e : n = a
      · rw [if_pos e, if_pos (show a < n + 1 by omega), e]; omega
      · rw [if_neg e, if_neg (show ¬ a < n + 1 by omega)]
theorem sm_none {f : Nat → Nat} (n : Nat) (h : ∀ i, i < n → f i = 0) : sm n f = 0 := by
  rw [sm_congr n h, sm_zero]
theorem ixu {w r c r' c' : Nat} (hc : c < w) (hc' : c' < w) : r * w + c = r' * w + c' ↔ r = r' ∧ c = c' := by
  constructor
  · intro h
    have h1 : (r * w + c) / w = r := by rw [Nat.mul_comm, Nat.mul_add_div (by omega), Nat.div_eq_of_lt hc]; rfl
    have h2 : (r' * w + c') / w = r' := by rw [Nat.mul_comm, Nat.mul_add_div (by omega), Nat.div_eq_of_lt hc']; rfl
    have h3 : (r * w + c) % w = c := by rw [Nat.mul_comm, Nat.mul_add_mod, Nat.mod_eq_of_lt hc]
    have h4 : (r' * w + c') % w = c' := by rw [Nat.mul_comm, Nat.mul_add_mod, Nat.mod_eq_of_lt hc']
    rw [h] at h1 h3
    exact ⟨h1.symm.trans h2, h3.symm.trans h4⟩
  · rintro ⟨rfl, rfl⟩; rfl
/-- The number of a point. -/
def pt (C y x : Nat) : Int := ((y * (C + 1) + x : Nat) : Int)
theorem ofNat_ix (C r c : Nat) : (r : Int) * ((C : Int) + 1) + c = pt C r c := by unfold pt; push_cast; rfl
theorem pt_inj {C r c y x : Nat} (hc : c ≤ C) (hx : x ≤ C) : pt C r c = pt C y x ↔ r = y ∧ c = x := by
  unfold pt
  rw [Int.ofNat_inj]; exact ixu (by omega) (by omega)
theorem pt_right (C r c : Nat) : pt C r c + 1 = pt C r (c + 1) := by unfold pt; omega
theorem pt_down (C r c : Nat) : pt C r c + C + 1 = pt C (r + 1) c := by unfold pt; rw [Nat.succ_mul]; omega
theorem hit_pt {C r c r' c' y x : Nat} (hc : c ≤ C) (hc' : c' ≤ C) (hx : x ≤ C) : hit (pt C r c, pt C r' c') (pt C y x) = (if r = y ∧ c = x then 1 else 0) + (if r' = y ∧ c' = x then 1 else 0) := by
  unfold hit
  simp only [pt_inj hc hx, pt_inj hc' hx]
theorem Fld.lens {R C : Nat} {A D : List (List Bool)} (h : Fld R C A D) : (∀ x ∈ A, x.length = C) ∧ ∀ x ∈ D, x.length = R := by
  constructor
  · intro x hx
    obtain ⟨i, hi, rfl⟩ := List.getElem_of_mem hx
    have := h.rA i (by have := h.lA; omega)
    rwa [getD_mem A i hi] at this
  · intro x hx
    obtain ⟨i, hi, rfl⟩ := List.getElem_of_mem hx
    have := h.rD i (by have := h.lD; omega)
    rwa [getD_mem D i hi] at this
theorem Fld.cnt_edges {R C : Nat} {A D : List (List Bool)} (h : Fld R C A D) {y x : Nat} (hy : y ≤ R) (hx : x ≤ C) : cnt (edges ((C : Int) + 1) A D) (pt C y x) = deg A D y x := by
  unfold edges
  rw [cnt_append, cnt_rowsE _ C _ A 0 h.lens.1, cnt_rowsE _ R _ D 0 h.lens.2, h.lA, h.lD]
  have e1 : sm (R + 1) (fun r => sm C (fun c => b2 (ga A r c) * hit (((0 + r : Nat) : Int) * ((C : Int) + 1) + c, ((0 + r : Nat) : Int) * ((C : Int) + 1) + c + 1) (pt C y x)))
      = b2 (ga A y x) + (if x = 0 then 0 else b2 (ga A y (x - 1))) := by
    have step : ∀ r, r < R + 1 → sm C (fun c => b2 (ga A r c) * hit (((0 + r : Nat) : Int) * ((C : Int) + 1) + c, ((0 + r : Nat) : Int) * ((C : Int) + 1) + c + 1) (pt C y x))
        = if r = y then b2 (ga A y x) + (if x = 0 then 0 else b2 (ga A y (x - 1))) else 0 := by
      intro r hr
      rw [Nat.zero_add]
      have e2 : ∀ c, c < C → b2 (ga A r c) * hit ((r : Int) * ((C : Int) + 1) + c, (r : Int) * ((C : Int) + 1) + c + 1) (pt C y x) = if r = y then (if c = x then b2 (ga A r c) else 0) + (if c = x - 1 then (if x = 0 then 0 else b2 (ga A r c)) else 0) else 0 := by
        intro c hc
        rw [ofNat_ix, pt_right, hit_pt (by omega) (by omega) hx]
        by_cases hry : r = y
        · rw [if_pos hry]
          by_cases h1 : c = x
          · by_cases h2 : c = x - 1
            · have h0 : x = 0 := by omega
              rw [if_pos ⟨hry, h1⟩, if_neg (by omega), if_pos h1, if_pos h2, if_pos h0]; omega
            · rw [if_pos ⟨hry, h1⟩, if_neg (by omega), if_pos h1, if_neg h2]; omega
          · by_cases h2 : c = x - 1
            · by_cases h0 : x = 0
              · omega
              · rw [if_neg (by omega), if_pos ⟨hry, by omega⟩, if_neg h1, if_pos h2, if_neg h0]; omega
            · rw [if_neg (by omega), if_neg (by omega), if_neg h1, if_neg h2]; simp
        · rw [if_neg hry, if_neg (by omega), if_neg (by omega)]; simp
      rw [sm_congr C e2]
      by_cases hry : r = y
      · rw [if_pos hry, sm_congr C (g := fun c => (if c = x then b2 (ga A y c) else 0) + (if c = x - 1 then (if x = 0 then 0 else b2 (ga A y c)) else 0)) (fun c _ => by rw [if_pos hry, hry])]
        rw [sm_add, sm_pick, sm_pick (fun c => if x = 0 then 0 else b2 (ga A y c))]
        congr 1
        · by_cases hxC : x < C
          · rw [if_pos hxC]
          · rw [if_neg hxC, h.a0 y x (.inr (by omega))]; rfl
        · have := h.hC
          rw [if_pos (by omega)]
      · rw [if_neg hry]
        exact sm_none C (fun c _ => if_neg hry)
    rw [sm_congr _ step, sm_pick (fun _ => _), if_pos (by omega)]
  have e1' : sm (C + 1) (fun c => sm R (fun r => b2 (ga D c r) * hit ((r : Int) * ((C : Int) + 1) + ((0 + c : Nat) : Int), ((r : Int) + 1) * ((C : Int) + 1) + ((0 + c : Nat) : Int)) (pt C y x)))
      = b2 (ga D x y) + (if y = 0 then 0 else b2 (ga D x (y - 1))) := by
    have step : ∀ c, c < C + 1 → sm R (fun r => b2 (ga D c r) * hit ((r : Int) * ((C : Int) + 1) + ((0 + c : Nat) : Int), ((r : Int) + 1) * ((C : Int) + 1) + ((0 + c : Nat) : Int)) (pt C y x))
        = if c = x then b2 (ga D x y) + (if y = 0 then 0 else b2 (ga D x (y - 1))) else 0 := by
      intro c hc
      rw [Nat.zero_add]
      have e2 : ∀ r, r < R → b2 (ga D c r) * hit ((r : Int) * ((C : Int) + 1) + c, ((r : Int) + 1) * ((C : Int) + 1) + c) (pt C y x) = if c = x then (if r = y then b2 (ga D c r) else 0) + (if r = y - 1 then (if y = 0 then 0 else b2 (ga D c r)) else 0) else 0 := by
        intro r hr
        have e3 : ((r : Int) + 1) = ((r + 1 : Nat) : Int) := by omega
        rw [e3, ofNat_ix, ofNat_ix, hit_pt (by omega) (by omega) hx]
        by_cases hcx : c = x
        · rw [if_pos hcx]
          by_cases h1 : r = y
          · by_cases h2 : r = y - 1
            · have h0 : y = 0 := by omega
              rw [if_pos ⟨h1, hcx⟩, if_neg (by omega), if_pos h1, if_pos h2, if_pos h0]; omega
            · rw [if_pos ⟨h1, hcx⟩, if_neg (by omega), if_pos h1, if_neg h2]; omega
          · by_cases h2 : r = y - 1
            · by_cases h0 : y = 0
              · omega
              · rw [if_neg (by omega), if_pos ⟨by omega, hcx⟩, if_neg h1, if_pos h2, if_neg h0]; omega
            · rw [if_neg (by omega), if_neg (by omega), if_neg h1, if_neg h2]; simp
        · rw [if_neg hcx, if_neg (by omega), if_neg (by omega)]; simp
      rw [sm_congr R e2]
      by_cases hcx : c = x
      · rw [if_pos hcx, sm_congr R (g := fun r => (if r = y then b2 (ga D x r) else 0) + (if r = y - 1 then (if y = 0 then 0 else b2 (ga D x r)) else 0)) (fun r _ => by rw [if_pos hcx, hcx])]
        rw [sm_add, sm_pick, sm_pick (fun r => if y = 0 then 0 else b2 (ga D x r))]
        congr 1
        · by_cases hyR : y < R
          · rw [if_pos hyR]
          · rw [if_neg hyR, h.d0 x y (.inr (by omega))]; rfl
        · have := h.hR
          rw [if_pos (by omega)]
      · rw [if_neg hcx]
        exact sm_none R (fun r _ => if_neg hcx)
    rw [sm_congr _ step, sm_pick (fun _ => _), if_pos (by omega)]
  have e1s : sm (R + 1) (fun r => sm C (fun c => b2 (ga A r c) * hit ((fun (r c : Nat) => ((r : Int) * ((C : Int) + 1) + c, (r : Int) * ((C : Int) + 1) + c + 1)) (0 + r) c) (pt C y x))) = _ := e1
  have e2s : sm (C + 1) (fun c => sm R (fun r => b2 (ga D c r) * hit ((fun (c r : Nat) => ((r : Int) * ((C : Int) + 1) + c, ((r : Int) + 1) * ((C : Int) + 1) + c)) (0 + c) r) (pt C y x))) = _ := e1'
  rw [e1s, e2s]
  unfold deg
  omega
/-- Where the edges end. -/
theorem Fld.ends {R C : Nat} {A D : List (List Bool)} (h : Fld R C A D) {e : Int × Int} (he : e ∈ edges ((C : Int) + 1) A D) :
    (∃ y x, y ≤ R ∧ x < C ∧ ga A y x = true ∧ e = (pt C y x, pt C y (x + 1))) ∨ (∃ y x, y < R ∧ x ≤ C ∧ ga D x y = true ∧ e = (pt C y x, pt C (y + 1) x)) := by
  rcases (mem_edges _ _ _ _).1 he with ⟨r, c, h1, h2⟩ | ⟨c, r, h1, h2⟩
  · have hr : r ≤ R ∧ c < C := by
      apply Classical.byContradiction
      intro hn
      rw [h.a0 r c (by omega)] at h1; cases h1
    exact .inl ⟨r, c, hr.1, hr.2, h1, by rw [h2, ofNat_ix, pt_right]⟩
  · have hr : r < R ∧ c ≤ C := by
      apply Classical.byContradiction
      intro hn
      rw [h.d0 c r (by omega)] at h1; cases h1
    have e3 : ((r : Int) + 1) = ((r + 1 : Nat) : Int) := by omega
    exact .inr ⟨r, c, hr.1, hr.2, h1, by rw [h2, e3, ofNat_ix, ofNat_ix]⟩
theorem edge_right {A D : List (List Bool)} {C y x : Nat} (h : ga A y x = true) : (pt C y x, pt C y (x + 1)) ∈ edges ((C : Int) + 1) A D :=
  (mem_edges _ _ _ _).2 (.inl ⟨y, x, h, by rw [ofNat_ix, pt_right]⟩)
theorem edge_down {A D : List (List Bool)} {C y x : Nat} (h : ga D x y = true) : (pt C y x, pt C (y + 1) x) ∈ edges ((C : Int) + 1) A D := by
  have e3 : ((y : Int) + 1) = ((y + 1 : Nat) : Int) := by omega
  exact (mem_edges _ _ _ _).2 (.inr ⟨x, y, h, by rw [e3, ofNat_ix, ofNat_ix]⟩)
/-- A point's neighbours by edges, as the reference lists them. -/
def nbs (C : Nat) (A D : List (List Bool)) (y x : Nat) : List Int :=
  (if ga A y x = true then [pt C y x + 1] else []) ++ (if x ≠ 0 ∧ ga A y (x - 1) = true then [pt C y x - 1] else []) ++ (if ga D x y = true then [pt C y x + C + 1] else []) ++ (if y ≠ 0 ∧ ga D x (y - 1) = true then [pt C y x - C - 1] else [])
theorem Fld.mem_nbs {R C : Nat} {A D : List (List Bool)} (h : Fld R C A D) {y x : Nat} (hy : y ≤ R) (hx : x ≤ C) (q : Int) :
    q ∈ nbs C A D y x ↔ (pt C y x, q) ∈ edges ((C : Int) + 1) A D ∨ (q, pt C y x) ∈ edges ((C : Int) + 1) A D := by
  have pl : x ≠ 0 → pt C y x - 1 = pt C y (x - 1) := fun h0 => by have := pt_right C y (x - 1); rw [show x - 1 + 1 = x by omega] at this; omega
  have pu : y ≠ 0 → pt C y x - C - 1 = pt C (y - 1) x := fun h0 => by have := pt_down C (y - 1) x; rw [show y - 1 + 1 = y by omega] at this; omega
  unfold nbs
  constructor
  · intro hq
    rw [List.mem_append, List.mem_append, List.mem_append] at hq
    rcases hq with ((hq | hq) | hq) | hq
    · split at hq
      · rename_i hg
        have := List.mem_singleton.1 hq
        rw [this, pt_right]; exact .inl (edge_right hg)
      · cases hq
    · split at hq
      · rename_i hg
        have := List.mem_singleton.1 hq
        rw [this, pl hg.1]
        have := edge_right (C := C) (D := D) hg.2
        rw [show x - 1 + 1 = x by omega] at this
        exact .inr this
      · cases hq
    · split at hq
      · rename_i hg
        have := List.mem_singleton.1 hq
        rw [this, pt_down]; exact .inl (edge_down hg)
      · cases hq
    · split at hq
      · rename_i hg
        have := List.mem_singleton.1 hq
        rw [this, pu hg.1]
        have := edge_down (C := C) (A := A) hg.2
        rw [show y - 1 + 1 = y by omega] at this
        exact .inr this
      · cases hq
  · rintro (hq | hq)
    · rcases h.ends hq with ⟨y', x', hy', hx', hg, he⟩ | ⟨y', x', hy', hx', hg, he⟩
      · injection he with e1 e2
        obtain ⟨rfl, rfl⟩ := (pt_inj hx (by omega)).1 e1
        rw [e2, ← pt_right]
        simp [hg]
      · injection he with e1 e2
        obtain ⟨rfl, rfl⟩ := (pt_inj hx (by omega)).1 e1
        rw [e2, ← pt_down]
        simp [hg]
    · rcases h.ends hq with ⟨y', x', hy', hx', hg, he⟩ | ⟨y', x', hy', hx', hg, he⟩
      · injection he with e1 e2
        obtain ⟨rfl, rfl⟩ := (pt_inj hx (by omega)).1 e2
        rw [e1]
        have := pl (by omega)
        simp only [Nat.add_sub_cancel] at this
        rw [← this]
        simp [hg]
      · injection he with e1 e2
        obtain ⟨rfl, rfl⟩ := (pt_inj hx (by omega)).1 e2
        rw [e1]
        have := pu (by omega)
        simp only [Nat.add_sub_cancel] at this
        rw [← this]
        simp [hg]
theorem nbs_len (C : Nat) (A D : List (List Bool)) (y x : Nat) : (nbs C A D y x).length ≤ 4 := by
  unfold nbs
  simp only [List.length_append]
  split <;> split <;> split <;> split <;> simp
/-- How many points there are. -/
def np (R C : Nat) : Nat := (R + 1) * (C + 1)
theorem pt_lt {R C y x : Nat} (hy : y ≤ R) (hx : x ≤ C) : 0 ≤ pt C y x ∧ pt C y x < np R C := by
  unfold pt np
  have := ix_lt (r := y) (R := R + 1) (C := C + 1) (c := x) (by omega) (by omega)
  omega
theorem pt_of {R C : Nat} {q : Int} (h0 : 0 ≤ q) (h1 : q < np R C) : ∃ y x, y ≤ R ∧ x ≤ C ∧ q = pt C y x := by
  obtain ⟨n, rfl⟩ := Int.eq_ofNat_of_zero_le h0
  have hn : n < (R + 1) * (C + 1) := by unfold np at h1; omega
  refine ⟨n / (C + 1), n % (C + 1), ?_, ?_, ?_⟩
  · have := Nat.div_lt_of_lt_mul (show n < (C + 1) * (R + 1) by rw [Nat.mul_comm]; exact hn)
    omega
  · have := Nat.mod_lt n (show 0 < C + 1 by omega); omega
  · unfold pt
    have := Nat.div_add_mod n (C + 1)
    rw [Nat.mul_comm] at this
    rw [this]
theorem Fld.end_pt {R C : Nat} {A D : List (List Bool)} (h : Fld R C A D) {e : Int × Int} (he : e ∈ edges ((C : Int) + 1) A D) : (0 ≤ e.1 ∧ e.1 < np R C) ∧ 0 ≤ e.2 ∧ e.2 < np R C := by
  rcases h.ends he with ⟨y, x, hy, hx, _, rfl⟩ | ⟨y, x, hy, hx, _, rfl⟩
  · exact ⟨pt_lt hy (by omega), pt_lt hy (by omega)⟩
  · exact ⟨pt_lt (by omega) hx, pt_lt (by omega) hx⟩
/-- The edges of a point by its number. -/
def dp (C : Nat) (A D : List (List Bool)) (n : Nat) : Nat := deg A D (n / (C + 1)) (n % (C + 1))
theorem dp_at {C : Nat} (A D : List (List Bool)) (r c : Nat) (hc : c ≤ C) : dp C A D (r * (C + 1) + c) = deg A D r c := by
  unfold dp
  have h1 : (r * (C + 1) + c) / (C + 1) = r := by
    rw [Nat.mul_comm, Nat.mul_add_div (by omega), Nat.div_eq_of_lt (by omega)]; rfl
  have h2 : (r * (C + 1) + c) % (C + 1) = c := by
    rw [Nat.mul_comm, Nat.mul_add_mod, Nat.mod_eq_of_lt (by omega)]
  rw [h1, h2]
theorem sm_points (C : Nat) (A D : List (List Bool)) : ∀ R, sm (R * (C + 1)) (dp C A D) = sm R (fun r => sm (C + 1) (fun c => deg A D r c))
  | 0 => by rw [Nat.zero_mul]; rfl
  | R + 1 => by
    rw [Nat.succ_mul, sm_split, sm_points C A D R, sm]
    congr 1
    exact sm_congr (C + 1) (fun c hc => dp_at A D R c (by omega))
theorem Fld.all_points {R C : Nat} {A D : List (List Bool)} (h : Fld R C A D) : sm (np R C) (dp C A D) = 2 * nEdges R C A D := by
  unfold np; rw [sm_points, h.hands]
/-- The edges of some points, added. -/
def lsum (C : Nat) (A D : List (List Bool)) (L : List Int) : Nat := (L.map fun q => dp C A D q.toNat).foldr (· + ·) 0
theorem lsum_cons (C : Nat) (A D : List (List Bool)) (q : Int) (L : List Int) : lsum C A D (q :: L) = dp C A D q.toNat + lsum C A D L := rfl
theorem lsum_append (C : Nat) (A D : List (List Bool)) : ∀ (L M : List Int), lsum C A D (L ++ M) = lsum C A D L + lsum C A D M
  | [], M => by simp [lsum]
  | q :: L, M => by rw [List.cons_append, lsum_cons, lsum_cons, lsum_append C A D L M]; omega
theorem lsum_sm (C n : Nat) (A D : List (List Bool)) : ∀ (L : List Int), L.Nodup → (∀ q ∈ L, 0 ≤ q ∧ q < n) → lsum C A D L = sm n (fun i => if (i : Int) ∈ L then dp C A D i else 0)
  | [], _, _ => by simp [lsum, sm_zero]
  | q :: L, hn, hb => by
    have hn' := List.nodup_cons.1 hn
    have ih := lsum_sm C n A D L hn'.2 (fun p hp => hb p (List.mem_cons_of_mem _ hp))
    obtain ⟨q0, q1⟩ := hb q (List.mem_cons_self ..)
    obtain ⟨m, rfl⟩ := Int.eq_ofNat_of_zero_le q0
    have hm : m < n := by omega
    have e : ∀ i, i < n → (if (i : Int) ∈ (m : Int) :: L then dp C A D i else 0) = (if i = m then dp C A D i else 0) + (if (i : Int) ∈ L then dp C A D i else 0) := by
      intro i _
      by_cases h1 : i = m
      · subst h1
        rw [if_pos (List.mem_cons_self ..), if_pos rfl, if_neg hn'.1]; omega
      · by_cases h2 : (i : Int) ∈ L
        · rw [if_pos (List.mem_cons_of_mem _ h2), if_neg h1, if_pos h2]; omega
        · rw [if_neg (fun h => by
            rcases List.mem_cons.1 h with h | h
            · omega
            · exact h2 h), if_neg h1, if_neg h2]
    rw [lsum_cons, ih, sm_congr n e, sm_add, sm_pick, if_pos hm, Int.toNat_natCast]
theorem sm_part (f : Nat → Nat) (P : Nat → Prop) [DecidablePred P] (n : Nat) : sm n (fun i => if P i then f i else 0) + sm n (fun i => if P i then 0 else f i) = sm n f := by
  rw [← sm_add]
  exact sm_congr n (fun i _ => by by_cases h : P i <;> simp [h])
/-- The points that can be reached from p, as a list. -/
structure Comp (R C : Nat) (A D : List (List Bool)) (p : Int) (L : List Int) : Prop where
  nodup : L.Nodup
  bound : ∀ q ∈ L, 0 ≤ q ∧ q < np R C
  mem : ∀ q, q ∈ L ↔ Rc (edges ((C : Int) + 1) A D) p q
/-- All edges are reached exactly if all points with edges are. -/
theorem Fld.reach_full {R C : Nat} {A D : List (List Bool)} (h : Fld R C A D) {p : Int} {L : List Int} (hL : Comp R C A D p L) :
    lsum C A D L / 2 = nEdges R C A D ↔ ∀ y x, y ≤ R → x ≤ C → deg A D y x ≠ 0 → Rc (edges ((C : Int) + 1) A D) p (pt C y x) := by
  have h1 := lsum_sm C (np R C) A D L hL.nodup hL.bound
  have h2 := sm_part (dp C A D) (fun i => (i : Int) ∈ L) (np R C)
  rw [← h1, h.all_points] at h2
  have h3 : sm (np R C) (fun i => if (i : Int) ∈ L then 0 else dp C A D i) = 0 ↔ ∀ y x, y ≤ R → x ≤ C → deg A D y x ≠ 0 → Rc (edges ((C : Int) + 1) A D) p (pt C y x) := by
    constructor
    · intro h0 y x hy hx hd
      rw [← hL.mem]
      apply Classical.byContradiction
      intro hn
      have hlt := (pt_lt hy hx).2
      unfold pt at hn hlt
      have := sm_ge (fun i => if (i : Int) ∈ L then 0 else dp C A D i) (np R C) (y * (C + 1) + x) (by omega)
      rw [if_neg hn, dp_at A D y x hx] at this
      omega
    · intro ha
      refine sm_none _ (fun i hi => ?_)
      by_cases hm : (i : Int) ∈ L
      · rw [if_pos hm]
      · rw [if_neg hm]
        obtain ⟨y, x, hy, hx, e⟩ := pt_of (R := R) (C := C) (q := (i : Int)) (by omega) (by omega)
        have e' : i = y * (C + 1) + x := by unfold pt at e; omega
        rw [e', dp_at A D y x hx]
        apply Classical.byContradiction
        intro hd
        exact hm ((hL.mem _).2 (e ▸ ha y x hy hx hd))
  rw [← h3]; omega
/-- The edges are one closed loop. -/
def Closed (R C : Nat) (A D : List (List Bool)) : Prop :=
  0 < nEdges R C A D ∧ ∀ y x, y ≤ R → x ≤ C → deg A D y x ≠ 0 → deg A D y x = 2 ∧ ∀ y' x', y' ≤ R → x' ≤ C → deg A D y' x' ≠ 0 → Rc (edges ((C : Int) + 1) A D) (pt C y x) (pt C y' x')
theorem Fld.pt_end {R C : Nat} {A D : List (List Bool)} (h : Fld R C A D) {p : Int} (hp : cnt (edges ((C : Int) + 1) A D) p ≠ 0) : ∃ y x, y ≤ R ∧ x ≤ C ∧ p = pt C y x ∧ deg A D y x = cnt (edges ((C : Int) + 1) A D) p := by
  obtain ⟨e, he, h3⟩ := (cnt_pos _ _).1 hp
  have hb := h.end_pt he
  have : 0 ≤ p ∧ p < np R C := by rcases h3 with rfl | rfl; exact hb.1; exact hb.2
  obtain ⟨y, x, hy, hx, e⟩ := pt_of this.1 this.2
  exact ⟨y, x, hy, hx, e, by rw [e, h.cnt_edges hy hx]⟩
theorem Fld.closed_iff {R C : Nat} {A D : List (List Bool)} (h : Fld R C A D) {e0 : Int × Int} {t : List (Int × Int)} (he : edges ((C : Int) + 1) A D = e0 :: t) :
    Closed R C A D ↔ ∀ p, cnt (e0 :: t) p ≠ 0 → cnt (e0 :: t) p = 2 ∧ Rc (e0 :: t) p e0.1 := by
  have hl := h.edges_length ((C : Int) + 1)
  have h0 : cnt (e0 :: t) e0.1 ≠ 0 := (cnt_pos _ _).2 ⟨e0, List.mem_cons_self .., .inl rfl⟩
  constructor
  · rintro ⟨_, hc⟩ p hp
    rw [← he] at hp h0
    obtain ⟨y, x, hy, hx, e, hd⟩ := h.pt_end hp
    obtain ⟨y0, x0, hy0, hx0, e0', hd0⟩ := h.pt_end h0
    obtain ⟨h2, h3⟩ := hc y x hy hx (by omega)
    rw [← he, e, e0']
    exact ⟨by rw [← e]; omega, h3 y0 x0 hy0 hx0 (by omega)⟩
  · intro hg
    refine ⟨by rw [he] at hl; simp at hl; omega, fun y x hy hx hd => ?_⟩
    rw [← h.cnt_edges hy hx, he] at hd
    obtain ⟨h2, h3⟩ := hg _ hd
    rw [← h.cnt_edges hy hx, he]
    refine ⟨h2, fun y' x' hy' hx' hd' => ?_⟩
    rw [← h.cnt_edges hy' hx', he] at hd'
    exact h3.trans (hg _ hd').2.symm
theorem Closed.ne_nil {R C : Nat} {A D : List (List Bool)} (h : Fld R C A D) (hc : Closed R C A D) : edges ((C : Int) + 1) A D ≠ [] := by
  intro e
  have hl := h.edges_length ((C : Int) + 1)
  rw [e] at hl
  have := hc.1
  simp at hl; omega
theorem Comp.sum_eq {R C : Nat} {A D : List (List Bool)} {p : Int} {L M : List Int} (h : Comp R C A D p L) (h' : Comp R C A D p M) : lsum C A D L = lsum C A D M := by
  rw [lsum_sm C (np R C) A D L h.nodup h.bound, lsum_sm C (np R C) A D M h'.nodup h'.bound]
  refine sm_congr _ (fun i _ => ?_)
  have : (i : Int) ∈ L ↔ (i : Int) ∈ M := by rw [h.mem, h'.mem]
  by_cases hm : (i : Int) ∈ L
  · rw [if_pos hm, if_pos (this.1 hm)]
  · rw [if_neg hm, if_neg (fun hh => hm (this.2 hh))]
theorem Fld.rc_bound {R C : Nat} {A D : List (List Bool)} (h : Fld R C A D) {p q : Int} (hp : 0 ≤ p ∧ p < np R C) (hq : Rc (edges ((C : Int) + 1) A D) p q) : 0 ≤ q ∧ q < np R C := by
  cases hq with
  | refl => exact hp
  | fwd _ he => exact (h.end_pt he).2
  | bwd _ he => exact (h.end_pt he).1
theorem len_np {R C : Nat} {L : List Int} (hn : L.Nodup) (hb : ∀ q ∈ L, 0 ≤ q ∧ q < np R C) : L.length ≤ np R C := by
  have := nodup_len (l := L) (m := (List.range (np R C)).map fun (i : Nat) => (i : Int)) hn (fun q hq => by
    obtain ⟨h0, h1⟩ := hb q hq
    obtain ⟨n, rfl⟩ := Int.eq_ofNat_of_zero_le h0
    exact List.mem_map.2 ⟨n, List.mem_range.2 (by omega), rfl⟩)
  simpa using this
theorem Fld.comp_exists {R C : Nat} {A D : List (List Bool)} (h : Fld R C A D) {p : Int} (hp : 0 ≤ p ∧ p < np R C) : ∃ L, Comp R C A D p L := by
  classical
  refine ⟨((List.range (np R C)).map fun (i : Nat) => (i : Int)).filter (fun q => decide (Rc (edges ((C : Int) + 1) A D) p q)), ?_, ?_, ?_⟩
  · refine List.Pairwise.filter _ ?_
    rw [List.pairwise_map]
    exact List.Pairwise.imp (fun hne e => hne (by omega)) List.nodup_range
  · intro q hq
    obtain ⟨i, hi, rfl⟩ := List.mem_map.1 (List.mem_filter.1 hq).1
    have := List.mem_range.1 hi
    omega
  · intro q
    rw [List.mem_filter, decide_eq_true_iff]
    constructor
    · exact fun hh => hh.2
    · intro hh
      obtain ⟨h0, h1⟩ := h.rc_bound hp hh
      obtain ⟨n, rfl⟩ := Int.eq_ofNat_of_zero_le h0
      exact ⟨List.mem_map.2 ⟨n, List.mem_range.2 (by omega), rfl⟩, hh⟩
/-! A walk over a growing list of points. -/
structure Grow (R C : Nat) (A D : List (List Bool)) (p : Int) (k : Nat) (L : List Int) : Prop where
  nodup : L.Nodup
  bound : ∀ q ∈ L, 0 ≤ q ∧ q < np R C
  has : p ∈ L
  conn : ∀ q ∈ L, Rc (edges ((C : Int) + 1) A D) p q
  done : ∀ j (hj : j < L.length), j < k → ∀ y x, y ≤ R → x ≤ C → L[j] = pt C y x → ∀ q ∈ nbs C A D y x, q ∈ L
theorem Grow.add {R C : Nat} {A D : List (List Bool)} (h : Fld R C A D) {p : Int} {k : Nat} {L : List Int} (g : Grow R C A D p k L) {y x : Nat} (hy : y ≤ R) (hx : x ≤ C) (hm : pt C y x ∈ L) {q : Int} (hq : q ∈ nbs C A D y x) (hn : q ∉ L) (hk : k < L.length) : Grow R C A D p k (L ++ [q]) := by
  have he := (h.mem_nbs hy hx q).1 hq
  have hr : Rc (edges ((C : Int) + 1) A D) p q := by
    rcases he with he | he
    · exact (g.conn _ hm).fwd he
    · exact (g.conn _ hm).bwd he
  refine ⟨?_, fun r hr' => ?_, List.mem_append.2 (.inl g.has), fun r hr' => ?_, fun j hj hjk y' x' hy' hx' hj' r hr' => ?_⟩
  · rw [List.nodup_append]
    exact ⟨g.nodup, by simp, fun a ha b hb e => by simp at hb; subst hb; exact hn (e ▸ ha)⟩
  · rcases List.mem_append.1 hr' with hr' | hr'
    · exact g.bound r hr'
    · rw [List.mem_singleton.1 hr']
      rcases he with he | he
      · exact (h.end_pt he).2
      · exact (h.end_pt he).1
  · rcases List.mem_append.1 hr' with hr' | hr'
    · exact g.conn r hr'
    · rw [List.mem_singleton.1 hr']; exact hr
  · rw [List.getElem_append_left (by omega)] at hj'
    exact List.mem_append.2 (.inl (g.done j (by omega) hjk y' x' hy' hx' hj' r hr'))
theorem Grow.comp {R C : Nat} {A D : List (List Bool)} (h : Fld R C A D) {p : Int} {L : List Int} (g : Grow R C A D p L.length L) : Comp R C A D p L := by
  refine ⟨g.nodup, g.bound, fun q => ⟨g.conn q, fun hq => ?_⟩⟩
  have key : ∀ a b, a ∈ L → (a, b) ∈ edges ((C : Int) + 1) A D ∨ (b, a) ∈ edges ((C : Int) + 1) A D → b ∈ L := by
    intro a b ha hb
    obtain ⟨j, hj, e⟩ := List.getElem_of_mem ha
    obtain ⟨h0, h1⟩ := g.bound a ha
    obtain ⟨y, x, hy, hx, e'⟩ := pt_of h0 h1
    refine g.done j hj hj y x hy hx (e.trans e') b ((h.mem_nbs hy hx b).2 ?_)
    rw [← e']; exact hb
  induction hq with
  | refl => exact g.has
  | fwd _ he ih => exact key _ _ ih (.inl he)
  | bwd _ he ih => exact key _ _ ih (.inr he)
def met (n : Nat) (L : List Int) : List Bool := (List.range n).map fun (i : Nat) => decide ((i : Int) ∈ L)
theorem met_length (n : Nat) (L : List Int) : (met n L).length = n := by simp [met]
theorem met_get {n : Nat} {L : List Int} {q : Int} (h0 : 0 ≤ q) (h1 : q < n) : rdOf false (met n L) q = decide (q ∈ L) := by
  obtain ⟨m, rfl⟩ := Int.eq_ofNat_of_zero_le h0
  rw [rdOf_nat false _ m (by rw [met_length]; omega)]
  simp [met]
theorem met_set {n : Nat} {L : List Int} {q : Int} (h0 : 0 ≤ q) : (met n L).set q.toNat true = met n (L ++ [q]) := by
  obtain ⟨m, rfl⟩ := Int.eq_ofNat_of_zero_le h0
  rw [Int.toNat_natCast]
  refine List.ext_getElem (by simp [met_length]) (fun i h1 h2 => ?_)
  rw [List.getElem_set]
  simp only [met, List.getElem_map, List.getElem_range, List.mem_append, List.mem_singleton]
  by_cases e : m = i
  · subst e; simp
  · rw [if_neg e]
    have : ¬ (i : Int) = (m : Int) := by omega
    simp [this]
theorem met_one {n : Nat} {p : Int} (h0 : 0 ≤ p) : (List.replicate n false).set p.toNat true = met n [p] := by
  have e : List.replicate n false = met n [] := by
    refine List.ext_getElem (by simp [met_length]) (fun i h1 h2 => ?_)
    simp [met]
  rw [e, met_set h0]; rfl
theorem pt_div {C y x : Nat} (hC : C ≤ 4) (hy : y ≤ 4) (hx : x ≤ C) : wrap64 (Int.tdiv (pt C y x) ((C : Int) + 1)) = (y : Int) := by
  have h2 : y * (C + 1) ≤ 4 * 5 := Nat.mul_le_mul hy (by omega)
  have e : Int.tdiv (pt C y x) ((C : Int) + 1) = (y : Int) := by
    have h3 : (0 : Int) ≤ pt C y x := by unfold pt; omega
    rw [Int.tdiv_eq_ediv_of_nonneg h3]
    unfold pt
    have e3 : ((C : Int) + 1) = ((C + 1 : Nat) : Int) := by omega
    rw [e3, ← Int.natCast_ediv, Nat.mul_comm, Nat.mul_add_div (by omega), Nat.div_eq_of_lt (by omega)]; rfl
  rw [e]; exact w64 (by omega) (by omega)
theorem pt_mod {C y x : Nat} (hx : x ≤ C) : Int.tmod (pt C y x) ((C : Int) + 1) = (x : Int) := by
  have h3 : (0 : Int) ≤ pt C y x := by unfold pt; omega
  rw [Int.tmod_eq_emod_of_nonneg h3]
  unfold pt
  have e3 : ((C : Int) + 1) = ((C + 1 : Nat) : Int) := by omega
  rw [e3, ← Int.natCast_emod, Nat.mul_comm, Nat.mul_add_mod, Nat.mod_eq_of_lt (by omega)]
theorem np_le {R C : Nat} (hR : R ≤ 4) (hC : C ≤ 4) : np R C ≤ 25 := by
  unfold np
  have : (R + 1) * (C + 1) ≤ 5 * 5 := Nat.mul_le_mul (by omega) (by omega)
  omega
theorem lsum_le (C : Nat) (A D : List (List Bool)) : ∀ L : List Int, lsum C A D L ≤ 4 * L.length
  | [] => by simp [lsum]
  | q :: L => by
    have := lsum_le C A D L
    have := deg_le A D (q.toNat / (C + 1)) (q.toNat % (C + 1))
    rw [lsum_cons, List.length_cons]; unfold dp; omega
/-- An odd number of them? -/
def xs : Nat → (Nat → Bool) → Bool
  | 0, _ => false
  | n + 1, f => xs n f ^^ f n
theorem xs_false (f : Nat → Bool) : ∀ n, (∀ i, i < n → f i = false) → xs n f = false
  | 0, _ => rfl
  | n + 1, h => by rw [xs, xs_false f n (fun i hi => h i (by omega)), h n (by omega)]; rfl
theorem xs_odd (f : Nat → Bool) : ∀ n, xs n f = decide (sm n (fun i => b2 (f i)) % 2 = 1)
  | 0 => rfl
  | n + 1 => by
    rw [xs, sm, xs_odd f n]
    have : sm n (fun i => b2 (f i)) % 2 = 0 ∨ sm n (fun i => b2 (f i)) % 2 = 1 := by omega
    cases f n with
    | true =>
      have e : b2 true = 1 := rfl
      rw [e]
      rcases this with h | h
      · have h' : (sm n (fun i => b2 (f i)) + 1) % 2 = 1 := by omega
        rw [h, h']; rfl
      · have h' : (sm n (fun i => b2 (f i)) + 1) % 2 = 0 := by omega
        rw [h, h']; rfl
    | false =>
      have e : b2 false = 0 := rfl
      rw [e, Nat.add_zero, Bool.xor_false]
/-- Every point has an even number of edges. -/
def EvenP (R C : Nat) (A D : List (List Bool)) : Prop := ∀ r c, r ≤ R → c ≤ C → ((ga A r c ^^ (decide (c ≠ 0) && ga A r (c - 1))) ^^ (ga D c r ^^ (decide (r ≠ 0) && ga D c (r - 1)))) = false
theorem bev : ∀ a a' d d' : Bool, (b2 a + b2 a' + b2 d + b2 d') % 2 = 0 → ((a ^^ a') ^^ (d ^^ d')) = false := by decide
theorem if_b2 (n : Nat) (x : Bool) : (if n = 0 then 0 else b2 x) = b2 (decide (n ≠ 0) && x) := by
  by_cases h : n = 0
  · rw [if_pos h, decide_eq_false (by omega)]; rfl
  · rw [if_neg h, decide_eq_true h, Bool.true_and]
theorem EvenP.of_deg {R C : Nat} {A D : List (List Bool)} (h : ∀ r c, r ≤ R → c ≤ C → deg A D r c % 2 = 0) : EvenP R C A D := by
  intro r c hr hc
  have := h r c hr hc
  unfold deg at this
  rw [if_b2, if_b2] at this
  exact bev _ _ _ _ this
theorem Closed.evenP {R C : Nat} {A D : List (List Bool)} (h : Closed R C A D) : EvenP R C A D :=
  EvenP.of_deg fun r c hr hc => by
    by_cases h0 : deg A D r c = 0
    · rw [h0]
    · rw [(h.2 r c hr hc h0).1]
theorem Fld.swap {R C : Nat} {A D : List (List Bool)} (h : Fld R C A D) : Fld C R D A := ⟨h.hC, h.hR, h.lD, h.lA, h.rD, h.rA⟩
theorem EvenP.swap {R C : Nat} {A D : List (List Bool)} (h : EvenP R C A D) : EvenP C R D A := by
  intro r c hr hc
  have := h c r hc hr
  rw [Bool.xor_comm]; exact this
theorem bool7 : ∀ X q Y a a' d e : Bool, (X ^^ (q && Y)) = a → ((a' ^^ (true && a)) ^^ (d ^^ (q && e))) = false → ((X ^^ d) ^^ (q && (Y ^^ e))) = a' := by decide
theorem bool4 : ∀ a q d e : Bool, ((a ^^ false) ^^ (d ^^ (q && e))) = false → ((false ^^ d) ^^ (q && (false ^^ e))) = a := by decide
theorem EvenP.sweep {R C : Nat} {A D : List (List Bool)} (ev : EvenP R C A D) {r : Nat} (hr : r ≤ R) : ∀ c, c ≤ C →
    (xs (c + 1) (fun i => ga D i r) ^^ (decide (r ≠ 0) && xs (c + 1) (fun i => ga D i (r - 1)))) = ga A r c
  | 0, _ => by
    have := ev r 0 hr (Nat.zero_le _)
    exact bool4 _ _ _ _ this
  | c + 1, hc => by
    have ih := EvenP.sweep ev hr c (by omega)
    have := ev r (c + 1) hr hc
    have e : decide (c + 1 ≠ 0) = true := by simp
    rw [e] at this
    exact bool7 _ _ _ _ _ _ _ ih this
theorem Fld.row_even {R C : Nat} {A D : List (List Bool)} (h : Fld R C A D) (ev : EvenP R C A D) : ∀ r, r ≤ R → xs (C + 1) (fun i => ga D i r) = false
  | 0, hr => by
    have := ev.sweep hr C (Nat.le_refl _)
    rw [h.a0 0 C (.inr (Nat.le_refl _))] at this
    simpa using this
  | r + 1, hr => by
    have ih := Fld.row_even h ev r (by omega)
    have := ev.sweep hr C (Nat.le_refl _)
    rw [h.a0 (r + 1) C (.inr (Nat.le_refl _)), Nat.add_sub_cancel, ih] at this
    simpa using this
theorem sm_even {f : Nat → Nat} : ∀ n, (∀ i, i < n → f i % 2 = 0) → sm n f % 2 = 0
  | 0, _ => rfl
  | n + 1, h => by have := sm_even n (fun i hi => h i (by omega)); have := h n (by omega); rw [sm]; omega
theorem Fld.na_even {R C : Nat} {A D : List (List Bool)} (h : Fld R C A D) (ev : EvenP R C A D) : na (C + 1) R D % 2 = 0 := by
  unfold na
  rw [sm_comm]
  refine sm_even R (fun r hr => ?_)
  have := h.row_even ev r (by omega)
  rw [xs_odd, decide_eq_false_iff_not] at this
  omega
theorem na_zero {n m : Nat} {l : List (List Bool)} (h : na n m l = 0) : ∀ i j, i < n → j < m → ga l i j = false := by
  intro i j hi hj
  have h1 := sm_ge (fun i => sm m (fun j => b2 (ga l i j))) n i hi
  have h2 := sm_ge (fun j => b2 (ga l i j)) m j hj
  unfold na at h
  cases hg : ga l i j with
  | false => rfl
  | true =>
    rw [hg] at h2
    have : b2 true = 1 := rfl
    omega
theorem zero_na {n m : Nat} {l : List (List Bool)} (h : ∀ i j, i < n → j < m → ga l i j = false) : na n m l = 0 :=
  sm_none n fun i hi => sm_none m fun j hj => by rw [h i j hi hj]; rfl
theorem Fld.none {R C : Nat} {A D : List (List Bool)} (h : Fld R C A D) (ev : EvenP R C A D) (h0 : na (R + 1) C A = 0) : na (C + 1) R D = 0 := by
  have hA : ∀ r c, r ≤ R → c ≤ C → ga A r c = false := by
    intro r c hr hc
    by_cases e : c = C
    · exact h.a0 r c (.inr (by omega))
    · exact na_zero h0 r c (by omega) (by omega)
  have hx : ∀ r, r ≤ R → ∀ c, c ≤ C → xs (c + 1) (fun i => ga D i r) = false := by
    intro r
    induction r with
    | zero =>
      intro hr c hc
      have := ev.sweep hr c hc
      rw [hA 0 c hr hc] at this
      simpa using this
    | succ r ih =>
      intro hr c hc
      have := ev.sweep hr c hc
      rw [hA (r + 1) c hr hc, Nat.add_sub_cancel, ih (by omega) c hc] at this
      simpa using this
  refine zero_na (fun c r hc hr => ?_)
  have h1 := hx r (by omega) c (by omega)
  rw [xs] at h1
  cases c with
  | zero => simpa [xs] using h1
  | succ c =>
    rw [hx r (by omega) c (by omega)] at h1
    simpa using h1
theorem Fld.four {R C : Nat} {A D : List (List Bool)} (h : Fld R C A D) (ev : EvenP R C A D) : nEdges R C A D % 2 = 0 ∧ (0 < nEdges R C A D → 4 ≤ nEdges R C A D) := by
  have h1 := h.na_even ev
  have h2 := h.swap.na_even ev.swap
  have h3 := h.none ev
  have h4 := h.swap.none ev.swap
  unfold nEdges
  constructor
  · omega
  · intro h0
    by_cases e1 : na (R + 1) C A = 0
    · have := h3 e1; omega
    · by_cases e2 : na (C + 1) R D = 0
      · exact absurd (h4 e2) e1
      · omega
/-! Fields made of functions. -/
theorem ga_mk (n m : Nat) (f : Nat → Nat → Bool) (i j : Nat) : ga (mk n m f) i j = if i < n ∧ j < m then f i j else false := by
  unfold ga mk
  by_cases hi : i < n
  · have e : ((List.range n).map fun i => (List.range m).map (f i)).getD i [] = (List.range m).map (f i) := by simp [hi]
    rw [e]
    by_cases hj : j < m
    · rw [if_pos ⟨hi, hj⟩]; simp [hj]
    · rw [if_neg (fun hh => hj hh.2)]; simp [hj]
  · have e : ((List.range n).map fun i => (List.range m).map (f i)).getD i [] = [] := by simp [hi]
    rw [e, if_neg (fun hh => hi hh.1)]; rfl
theorem mk_congr {n m : Nat} {f g : Nat → Nat → Bool} (h : ∀ i j, i < n → j < m → f i j = g i j) : mk n m f = mk n m g := by
  unfold mk
  refine List.map_congr_left (fun i hi => List.map_congr_left (fun j hj => h i j (List.mem_range.1 hi) (List.mem_range.1 hj)))
theorem mk_self {n m : Nat} {l : List (List Bool)} (hl : l.length = n) (hr : ∀ i, i < n → (l.getD i []).length = m) : mk n m (ga l) = l := by
  unfold mk
  refine List.ext_getElem (by simp [hl]) (fun i h1 h2 => ?_)
  have hi := hr i (by omega)
  rw [List.getElem_map, List.getElem_range]
  have e : l.getD i [] = l[i] := getD_mem l i h2
  rw [e] at hi
  refine List.ext_getElem (by simp [hi]) (fun j h3 h4 => ?_)
  rw [List.getElem_map, List.getElem_range]
  unfold ga
  rw [e]; simp [h4]
theorem Fld.self {R C : Nat} {A D : List (List Bool)} (h : Fld R C A D) : Mo.mk (R + 1) C (ga A) = A ∧ Mo.mk (C + 1) R (ga D) = D :=
  ⟨mk_self h.lA h.rA, mk_self h.lD h.rD⟩
theorem Fld.of_mk {R C : Nat} (hR : 1 ≤ R ∧ R ≤ 4) (hC : 1 ≤ C ∧ C ≤ 4) (f g : Nat → Nat → Bool) : Fld R C (Mo.mk (R + 1) C f) (Mo.mk (C + 1) R g) := by
  refine ⟨hR, hC, mk_length _ _ _, mk_length _ _ _, fun r hr => ?_, fun c hc => ?_⟩
  · rw [getD_mem _ r (by rw [mk_length]; exact hr)]
    exact mk_rows _ _ _ _ (List.getElem_mem _)
  · rw [getD_mem _ c (by rw [mk_length]; exact hc)]
    exact mk_rows _ _ _ _ (List.getElem_mem _)
/-! Insides. -/
def insd (R C : Nat) (D : List (List Bool)) : List Bool := (List.range (R * C)).map fun i => xs (i % C + 1) (fun c => ga D c (i / C))
theorem insd_length (R C : Nat) (D : List (List Bool)) : (insd R C D).length = R * C := by simp [insd]
theorem insd_at {R C r c : Nat} (D : List (List Bool)) (hr : r < R) (hc : c < C) : (insd R C D).getD (r * C + c) false = xs (c + 1) (fun i => ga D i r) := by
  have hlt := ix_lt hr hc
  have h1 : (r * C + c) / C = r := by
    rw [Nat.mul_comm, Nat.mul_add_div (by omega), Nat.div_eq_of_lt hc]; rfl
  have h2 : (r * C + c) % C = c := by
    rw [Nat.mul_comm, Nat.mul_add_mod, Nat.mod_eq_of_lt hc]
  unfold insd
  simp only [List.getD_eq_getElem?_getD, List.getElem?_map, List.getElem?_range hlt, Option.map_some, Option.getD_some, h1, h2]
theorem bneb : ∀ a b : Bool, (a != b) = (b ^^ a) := by decide
theorem Fld.around_insd {R C : Nat} {A D : List (List Bool)} (h : Fld R C A D) (ev : EvenP R C A D) : Mo.mk (R + 1) C (arA R C (insd R C D)) = A ∧ Mo.mk (C + 1) R (arD R C (insd R C D)) = D := by
  have hX : ∀ r c, r ≤ R → c < C → (decide (r < R) && (insd R C D).getD (r * C + c) false) = xs (c + 1) (fun i => ga D i r) := by
    intro r c hr hc
    by_cases e : r < R
    · rw [insd_at D e hc, decide_eq_true e]; rfl
    · rw [decide_eq_false e, xs_false _ _ (fun i _ => h.d0 i r (.inr (by omega)))]; rfl
  constructor
  · refine Eq.trans (mk_congr fun r c hr hc => ?_) h.self.1
    unfold arA
    rw [hX r c (by omega) hc, bneb, ← ev.sweep (show r ≤ R by omega) c (by omega)]
    congr 1
    by_cases e : r = 0
    · subst e; simp
    · have hx := hX (r - 1) c (by omega) hc
      rw [decide_eq_true (show r - 1 < R by omega), Bool.true_and] at hx
      rw [hx, decide_eq_true (show 0 < r by omega), decide_eq_true (show r ≠ 0 from e)]
  · refine Eq.trans (mk_congr fun c r hc hr => ?_) h.self.2
    unfold arD
    have hx : (decide (c < C) && (insd R C D).getD (r * C + c) false) = xs (c + 1) (fun i => ga D i r) := by
      by_cases e : c < C
      · rw [insd_at D hr e, decide_eq_true e]; rfl
      · have e2 : c = C := by omega
        rw [decide_eq_false e, e2, h.row_even ev r (by omega)]; rfl
    rw [hx, bneb, xs]
    cases c with
    | zero => simp [xs]
    | succ c =>
      have hx2 : (decide (0 < c + 1) && (insd R C D).getD (r * C + (c + 1) - 1) false) = xs (c + 1) (fun i => ga D i r) := by
        have e : r * C + (c + 1) - 1 = r * C + c := by omega
        rw [e, insd_at D hr (by omega)]; simp
      rw [hx2]
      generalize xs (c + 1) (fun i => ga D i r) = X
      generalize ga D (c + 1) r = d
      revert X d; decide
/-- A cell with its numbers one more: outside of the field nothing is inside. -/
def jn (R C : Nat) (l : List Bool) (y x : Nat) : Bool := decide (0 < y ∧ y ≤ R ∧ 0 < x ∧ x ≤ C) && l.getD ((y - 1) * C + (x - 1)) false
theorem jn_out {R C : Nat} {l : List Bool} {y x : Nat} (h : ¬ (0 < y ∧ y ≤ R ∧ 0 < x ∧ x ≤ C)) : jn R C l y x = false := by
  unfold jn; rw [decide_eq_false h]; rfl
theorem ar_A {R C r c : Nat} (l : List Bool) (hr : r ≤ R) (hc : c ≤ C) : ga (mk (R + 1) C (arA R C l)) r c = (jn R C l r (c + 1) ^^ jn R C l (r + 1) (c + 1)) := by
  rw [ga_mk]
  by_cases e : c < C
  · rw [if_pos ⟨by omega, e⟩]
    unfold arA jn
    have e1 : decide (0 < r ∧ r ≤ R ∧ 0 < c + 1 ∧ c + 1 ≤ C) = decide (0 < r) := decide_eq_decide.2 (by omega)
    have e2 : decide (0 < r + 1 ∧ r + 1 ≤ R ∧ 0 < c + 1 ∧ c + 1 ≤ C) = decide (r < R) := decide_eq_decide.2 (by omega)
    rw [e1, e2, Nat.add_sub_cancel, Nat.add_sub_cancel]
  · rw [if_neg (fun hh => e hh.2), jn_out (by omega), jn_out (by omega)]; rfl
theorem ar_D {R C r c : Nat} (l : List Bool) (hr : r ≤ R) (hc : c ≤ C) : ga (mk (C + 1) R (arD R C l)) c r = (jn R C l (r + 1) c ^^ jn R C l (r + 1) (c + 1)) := by
  rw [ga_mk]
  by_cases e : r < R
  · rw [if_pos ⟨by omega, e⟩]
    unfold arD jn
    have e1 : decide (0 < r + 1 ∧ r + 1 ≤ R ∧ 0 < c ∧ c ≤ C) = decide (0 < c) := decide_eq_decide.2 (by omega)
    have e2 : decide (0 < r + 1 ∧ r + 1 ≤ R ∧ 0 < c + 1 ∧ c + 1 ≤ C) = decide (c < C) := decide_eq_decide.2 (by omega)
    rw [e1, e2, Nat.add_sub_cancel, Nat.add_sub_cancel]
    by_cases h0 : 0 < c
    · have e3 : r * C + c - 1 = r * C + (c - 1) := by omega
      rw [e3]
    · rw [decide_eq_false h0]; rfl
  · rw [if_neg (fun hh => e hh.2), jn_out (by omega), jn_out (by omega)]; rfl
theorem bool4b : ∀ a b c d : Bool, (((a ^^ b) ^^ (c ^^ d)) ^^ ((d ^^ b) ^^ (c ^^ a))) = false := by decide
theorem around_even (R C : Nat) (l : List Bool) : EvenP R C (mk (R + 1) C (arA R C l)) (mk (C + 1) R (arD R C l)) := by
  intro r c hr hc
  rw [ar_A l hr hc, ar_D l hr hc]
  have e1 : (decide (c ≠ 0) && ga (mk (R + 1) C (arA R C l)) r (c - 1)) = (jn R C l r c ^^ jn R C l (r + 1) c) := by
    by_cases h0 : c = 0
    · rw [decide_eq_false (by omega), jn_out (by omega), jn_out (by omega)]; rfl
    · rw [ar_A l hr (by omega), decide_eq_true h0, show c - 1 + 1 = c by omega]; rfl
  have e2 : (decide (r ≠ 0) && ga (mk (C + 1) R (arD R C l)) c (r - 1)) = (jn R C l r c ^^ jn R C l r (c + 1)) := by
    by_cases h0 : r = 0
    · rw [decide_eq_false (by omega), jn_out (by omega), jn_out (by omega)]; rfl
    · rw [ar_D l (by omega) hc, decide_eq_true h0, show r - 1 + 1 = r by omega]; rfl
  rw [e1, e2]
  exact bool4b _ _ _ _
theorem insd_around {R C : Nat} {l : List Bool} (hl : l.length = R * C) : insd R C (mk (C + 1) R (arD R C l)) = l := by
  unfold insd
  refine List.ext_getElem (by simp [hl]) (fun i h1' h2 => ?_)
  have h1 : i < R * C := by omega
  have hC : 0 < C := by
    apply Nat.pos_of_ne_zero
    intro e; subst e; omega
  have hr : i / C < R := Nat.div_lt_of_lt_mul (by rw [Nat.mul_comm]; exact h1)
  have hc : i % C < C := Nat.mod_lt _ hC
  have hi : i / C * C + i % C = i := by rw [Nat.mul_comm]; exact Nat.div_add_mod i C
  have key : ∀ c, c ≤ C → xs c (fun c' => ga (mk (C + 1) R (arD R C l)) c' (i / C)) = jn R C l (i / C + 1) c := by
    intro c
    induction c with
    | zero => intro _; rw [jn_out (by omega)]; rfl
    | succ c ih =>
      intro hcc
      rw [xs, ih (by omega), ar_D l (by omega) (by omega)]
      generalize jn R C l (i / C + 1) c = a
      generalize jn R C l (i / C + 1) (c + 1) = b
      revert a b; decide
  have e := key (i % C + 1) (by omega)
  have e2 : jn R C l (i / C + 1) (i % C + 1) = l[i] := by
    unfold jn
    rw [decide_eq_true ⟨Nat.succ_pos _, hr, Nat.succ_pos _, hc⟩, Nat.add_sub_cancel, Nat.add_sub_cancel, hi]
    simp [h2]
  rw [List.getElem_map, List.getElem_range, e, e2]
theorem Fld.insd_some {R C : Nat} {A D : List (List Bool)} (h : Fld R C A D) (ev : EvenP R C A D) (hn : 0 < nEdges R C A D) : ∃ i, i < R * C ∧ (insd R C D).getD i false = true := by
  apply Classical.byContradiction
  intro hno
  have hf : ∀ i, (insd R C D).getD i false = false := by
    intro i
    by_cases hi : i < R * C
    · cases hb : (insd R C D).getD i false with
      | false => rfl
      | true => exact absurd ⟨i, hi, hb⟩ hno
    · rw [List.getD_eq_getElem?_getD, List.getElem?_eq_none (by rw [insd_length]; omega)]; rfl
  obtain ⟨h1, h2⟩ := h.around_insd ev
  have n1 : na (R + 1) C A = 0 := by
    rw [← h1]
    refine zero_na (fun i j hi hj => ?_)
    rw [ga_mk, if_pos ⟨hi, hj⟩]
    unfold arA
    rw [hf, hf, Bool.and_false, Bool.and_false]; rfl
  have := h.none ev n1
  unfold nEdges at hn
  omega
/-- Without one of its edges a closed loop is not closed. -/
theorem Closed.without {R C : Nat} {A A' D : List (List Bool)} (h : Closed R C A D) {k c : Nat} (hk : k ≤ R) (hc : c ≤ C) (h1 : ga A k c = true) (h2 : ga A' k c = false) (h3 : c ≠ 0 → ga A' k (c - 1) = ga A k (c - 1)) : ¬ Closed R C A' D := by
  intro h'
  have e := h.evenP k c hk hc
  have e' := h'.evenP k c hk hc
  rw [h1] at e
  rw [h2] at e'
  have e3 : (decide (c ≠ 0) && ga A' k (c - 1)) = (decide (c ≠ 0) && ga A k (c - 1)) := by
    by_cases h0 : c = 0
    · rw [decide_eq_false (by omega)]; rfl
    · rw [h3 h0]
  rw [e3] at e'
  generalize (decide (c ≠ 0) && ga A k (c - 1)) = x at e e'
  generalize (ga D c k ^^ (decide (k ≠ 0) && ga D c (k - 1))) = y at e e'
  revert x y; decide
theorem Closed.across {R C : Nat} {A D : List (List Bool)} (hf : Fld R C A D) (h : Closed R C A D) : na (R + 1) C A ≠ 0 := by
  intro h0
  have := hf.none h.evenP h0
  have := h.1
  unfold nEdges at this
  omega
theorem arA_jn {R C r c : Nat} (l : List Bool) (hr : r ≤ R) (hc : c < C) : arA R C l r c = (jn R C l r (c + 1) != jn R C l (r + 1) (c + 1)) := by
  have := ar_A l hr (Nat.le_of_lt hc)
  rw [ga_mk, if_pos ⟨by omega, hc⟩] at this
  exact this
theorem arD_jn {R C r c : Nat} (l : List Bool) (hr : r < R) (hc : c ≤ C) : arD R C l c r = (jn R C l (r + 1) c != jn R C l (r + 1) (c + 1)) := by
  have := ar_D l (Nat.le_of_lt hr) hc
  rw [ga_mk, if_pos ⟨by omega, hr⟩] at this
  exact this
theorem around_pos {R C : Nat} {l : List Bool} (hR : 1 ≤ R ∧ R ≤ 4) (hC : 1 ≤ C ∧ C ≤ 4) (hl : l.length = R * C) : around (R : Int) (C : Int) l = ((R : Int), (C : Int), mk (R + 1) C (arA R C l), mk (C + 1) R (arD R C l)) := by
  unfold around
  rw [if_pos ⟨by omega, by omega, by rw [hl]; simp⟩, Int.toNat_natCast, Int.toNat_natCast]
theorem mk_short (n m : Nat) (f : Nat → Nat → Bool) (hn : n ≤ 1048576) (hm : m ≤ 1048576) : Short (mk n m f) :=
  ⟨by rw [mk_length]; exact hn, fun x hx => by rw [mk_rows n m f x hx]; exact hm⟩
theorem around_short (R C : Int) (l : List Bool) : Short (around R C l).2.2.1 ∧ Short (around R C l).2.2.2 := by
  unfold around
  by_cases h : Around R C l
  · rw [if_pos h]
    have := h.1; have := h.2.1
    exact ⟨mk_short _ _ _ (by omega) (by omega), mk_short _ _ _ (by omega) (by omega)⟩
  · rw [if_neg h]
    exact ⟨⟨by simp, fun x hx => by cases hx⟩, ⟨by simp, fun x hx => by cases hx⟩⟩
end Go.Proofs.Ytncmneliinbjdaa.Mo
