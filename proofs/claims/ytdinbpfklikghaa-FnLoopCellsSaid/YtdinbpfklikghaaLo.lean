/- Plain definitions on fields of edges (what is a valid one, its edges), and plain lemmas on them. No conditions. -/
import Derived.Test.YtdinbpfklikghaaMo
set_option linter.unusedSimpArgs false
set_option linter.unusedVariables false
namespace Go.Proofs.Ytdinbpfklikghaa.Mo
open Go.RowKit Go.Proofs.Ytdinbpfklikghaa.Pk Go.Proofs.YtdinbpfklikghaaW.PrintWords

def Lens (n : Int) (l : List (List Bool)) : Prop := ∀ x ∈ l, (x.length : Int) = n
instance (n : Int) (l : List (List Bool)) : Decidable (Lens n l) := by unfold Lens; infer_instance
theorem Lens.nil (n : Int) : Lens n [] := fun _ h => by cases h
theorem Lens.cons {n : Int} {x : List Bool} {l : List (List Bool)} : Lens n (x :: l) ↔ (x.length : Int) = n ∧ Lens n l := by
  unfold Lens; simp [List.forall_mem_cons]
/-- A field of edges: R rows and C columns of cells, R + 1 rows with C edges each, C + 1 columns with R edges each. -/
def FieldOk (R C : Int) (A D : List (List Bool)) : Prop :=
  (1 ≤ R ∧ R ≤ 4) ∧ (1 ≤ C ∧ C ≤ 4) ∧ (A.length : Int) = R + 1 ∧ (D.length : Int) = C + 1 ∧ Lens C A ∧ Lens R D
instance (R C : Int) (A D : List (List Bool)) : Decidable (FieldOk R C A D) := by unfold FieldOk; infer_instance
def Short (l : List (List Bool)) : Prop := l.length ≤ 1048576 ∧ ∀ x ∈ l, x.length ≤ 1048576
theorem getD_mem (l : List (List Bool)) (i : Nat) (h : i < l.length) : l.getD i [] = l[i] := by
  simp [h]
/-! Sums. -/
def sm : Nat → (Nat → Nat) → Nat
  | 0, _ => 0
  | n + 1, f => sm n f + f n
theorem sm_congr {f g : Nat → Nat} : ∀ (n : Nat), (∀ i, i < n → f i = g i) → sm n f = sm n g
  | 0, _ => rfl
  | n + 1, h => by rw [sm, sm, sm_congr n (fun i hi => h i (by omega)), h n (by omega)]
theorem sm_zero : ∀ (n : Nat), sm n (fun _ => 0) = 0
  | 0 => rfl
  | n + 1 => by rw [sm, sm_zero n]
theorem sm_add (f g : Nat → Nat) : ∀ (n : Nat), sm n (fun i => f i + g i) = sm n f + sm n g
  | 0 => rfl
  | n + 1 => by rw [sm, sm, sm, sm_add f g n]; omega
theorem sm_head (f : Nat → Nat) : ∀ (n : Nat), sm (n + 1) f = f 0 + sm n (fun i => f (i + 1))
  | 0 => by simp [sm]
  | n + 1 => by rw [sm, sm_head f n, sm]; omega
theorem sm_shift (f : Nat → Nat) (n : Nat) : sm (n + 1) (fun c => if c = 0 then 0 else f (c - 1)) = sm n f := by
  rw [sm_head]; simp
theorem sm_comm (f : Nat → Nat → Nat) (m : Nat) : ∀ (n : Nat), sm n (fun i => sm m (fun j => f i j)) = sm m (fun j => sm n (fun i => f i j))
  | 0 => by simp [sm, sm_zero]
  | n + 1 => by rw [sm, sm_comm f m n, ← sm_add]; rfl
theorem sm_le {f g : Nat → Nat} : ∀ (n : Nat), (∀ i, i < n → f i ≤ g i) → sm n f ≤ sm n g
  | 0, _ => Nat.le_refl _
  | n + 1, h => by have := sm_le n (fun i hi => h i (by omega)); have := h n (by omega); simp only [sm]; omega
theorem sm_const (k : Nat) : ∀ (n : Nat), sm n (fun _ => k) = n * k
  | 0 => by simp [sm]
  | n + 1 => by rw [sm, sm_const k n, Nat.succ_mul]
theorem sm_ge (f : Nat → Nat) : ∀ (n i : Nat), i < n → f i ≤ sm n f
  | 0, _, h => by omega
  | n + 1, i, h => by
    simp only [sm]
    by_cases e : i = n
    · subst e; omega
    · have := sm_ge f n i (by omega); omega
def b2 (b : Bool) : Nat := if b then 1 else 0
theorem b2_le (b : Bool) : b2 b ≤ 1 := by cases b <;> decide
/-- Edge c of row r. -/
def ga (l : List (List Bool)) (r c : Nat) : Bool := (l.getD r []).getD c false
def na (n m : Nat) (l : List (List Bool)) : Nat := sm n (fun i => sm m (fun j => b2 (ga l i j)))
theorem na_le (n m : Nat) (l : List (List Bool)) : na n m l ≤ n * m := by
  have h : ∀ i, i < n → sm m (fun j => b2 (ga l i j)) ≤ m := fun i _ => by
    have := sm_le m (f := fun j => b2 (ga l i j)) (g := fun _ => 1) (fun j _ => b2_le _)
    rwa [sm_const, Nat.mul_one] at this
  have := sm_le n h
  rw [sm_const] at this
  exact this
def nEdges (R C : Nat) (A D : List (List Bool)) : Nat := na (R + 1) C A + na (C + 1) R D
/-- How many edges the point (r, c) has. -/
def deg (A D : List (List Bool)) (r c : Nat) : Nat :=
  b2 (ga A r c) + (if c = 0 then 0 else b2 (ga A r (c - 1))) + b2 (ga D c r) + (if r = 0 then 0 else b2 (ga D c (r - 1)))
theorem deg_le (A D : List (List Bool)) (r c : Nat) : deg A D r c ≤ 4 := by
  unfold deg
  have := b2_le (ga A r c); have := b2_le (ga A r (c - 1)); have := b2_le (ga D c r); have := b2_le (ga D c (r - 1))
  split <;> split <;> omega
/-- A field with its numbers as natural ones. -/
structure Fld (R C : Nat) (A D : List (List Bool)) : Prop where
  hR : 1 ≤ R ∧ R ≤ 4
  hC : 1 ≤ C ∧ C ≤ 4
  lA : A.length = R + 1
  lD : D.length = C + 1
  rA : ∀ r, r < R + 1 → (A.getD r []).length = C
  rD : ∀ c, c < C + 1 → (D.getD c []).length = R
theorem FieldOk.fld {R C : Int} {A D : List (List Bool)} (h : FieldOk R C A D) : ∃ R' C' : Nat, R = R' ∧ C = C' ∧ Fld R' C' A D := by
  obtain ⟨⟨r1, r2⟩, ⟨c1, c2⟩, hA, hD, hLA, hLD⟩ := h
  obtain ⟨R', rfl⟩ := Int.eq_ofNat_of_zero_le (show 0 ≤ R by omega)
  obtain ⟨C', rfl⟩ := Int.eq_ofNat_of_zero_le (show 0 ≤ C by omega)
  refine ⟨R', C', rfl, rfl, ⟨by omega, by omega⟩, ⟨by omega, by omega⟩, by omega, by omega, fun r hr => ?_, fun c hc => ?_⟩
  · have h1 : r < A.length := by omega
    have := hLA _ (List.getElem_mem h1)
    rw [getD_mem A r h1]; omega
  · have h1 : c < D.length := by omega
    have := hLD _ (List.getElem_mem h1)
    rw [getD_mem D c h1]; omega
theorem Fld.ok {R C : Nat} {A D : List (List Bool)} (h : Fld R C A D) : FieldOk R C A D := by
  have := h.hR; have := h.hC; have hA := h.lA; have hD := h.lD
  refine ⟨by omega, by omega, by omega, by omega, fun x hx => ?_, fun x hx => ?_⟩
  · obtain ⟨i, hi, rfl⟩ := List.getElem_of_mem hx
    have := h.rA i (by omega)
    rw [getD_mem A i hi] at this; omega
  · obtain ⟨i, hi, rfl⟩ := List.getElem_of_mem hx
    have := h.rD i (by omega)
    rw [getD_mem D i hi] at this; omega
theorem Fld.a0 {R C : Nat} {A D : List (List Bool)} (h : Fld R C A D) (r c : Nat) (hh : R < r ∨ C ≤ c) : ga A r c = false := by
  unfold ga
  by_cases hr : r < R + 1
  · have := h.rA r hr
    rw [List.getD_eq_getElem?_getD, List.getElem?_eq_none (by omega)]; rfl
  · have hl := h.lA
    have : A.getD r [] = [] := by rw [List.getD_eq_getElem?_getD, List.getElem?_eq_none (by omega)]; rfl
    rw [this]; rfl
theorem Fld.d0 {R C : Nat} {A D : List (List Bool)} (h : Fld R C A D) (c r : Nat) (hh : C < c ∨ R ≤ r) : ga D c r = false := by
  unfold ga
  by_cases hc : c < C + 1
  · have := h.rD c hc
    rw [List.getD_eq_getElem?_getD, List.getElem?_eq_none (by omega)]; rfl
  · have hl := h.lD
    have : D.getD c [] = [] := by rw [List.getD_eq_getElem?_getD, List.getElem?_eq_none (by omega)]; rfl
    rw [this]; rfl
theorem Fld.na_le {R C : Nat} {A D : List (List Bool)} (h : Fld R C A D) : nEdges R C A D ≤ 40 := by
  have h1 := Mo.na_le (R + 1) C A
  have h2 := Mo.na_le (C + 1) R D
  have := h.hR; have := h.hC
  have a : (R + 1) * C ≤ 5 * 4 := Nat.mul_le_mul (by omega) (by omega)
  have b : (C + 1) * R ≤ 5 * 4 := Nat.mul_le_mul (by omega) (by omega)
  unfold nEdges; omega
/-- All degrees together count every edge twice. -/
theorem Fld.hands {R C : Nat} {A D : List (List Bool)} (h : Fld R C A D) : sm (R + 1) (fun r => sm (C + 1) (fun c => deg A D r c)) = 2 * nEdges R C A D := by
  have e1 : ∀ r, sm (C + 1) (fun c => deg A D r c) = sm (C + 1) (fun c => b2 (ga A r c)) + sm C (fun c => b2 (ga A r c)) + sm (C + 1) (fun c => b2 (ga D c r)) + sm (C + 1) (fun c => if r = 0 then 0 else b2 (ga D c (r - 1))) := by
    intro r
    rw [← sm_shift (fun c => b2 (ga A r c)) C, ← sm_add, ← sm_add, ← sm_add]
    rfl
  rw [sm_congr (R + 1) (fun r _ => e1 r), sm_add, sm_add, sm_add]
  have e2 : ∀ r, sm (C + 1) (fun c => b2 (ga A r c)) = sm C (fun c => b2 (ga A r c)) := by
    intro r; rw [sm, h.a0 r C (.inr (Nat.le_refl _))]; rfl
  rw [sm_congr (R + 1) (fun r _ => e2 r)]
  have e3 : sm (R + 1) (fun r => sm (C + 1) (fun c => b2 (ga D c r))) = na (C + 1) R D := by
    rw [sm_comm]
    unfold na
    apply sm_congr
    intro c _
    rw [sm, h.d0 c R (.inr (Nat.le_refl _))]; rfl
  have e4 : sm (R + 1) (fun r => sm (C + 1) (fun c => if r = 0 then 0 else b2 (ga D c (r - 1)))) = na (C + 1) R D := by
    rw [sm_comm]
    unfold na
    apply sm_congr
    intro c _
    exact sm_shift (fun r => b2 (ga D c r)) R
  rw [e3, e4]
  unfold nEdges
  show na (R + 1) C A + na (R + 1) C A + na (C + 1) R D + na (C + 1) R D = _
  omega
/-! The edges as pairs of points. -/
def rowE (f : Nat → Int × Int) : Nat → List Bool → List (Int × Int)
  | _, [] => []
  | i, b :: t => if b = true then f i :: rowE f (i + 1) t else rowE f (i + 1) t
def rowsE (f : Nat → Nat → Int × Int) : Nat → List (List Bool) → List (Int × Int)
  | _, [] => []
  | i, x :: t => rowE (f i) 0 x ++ rowsE f (i + 1) t
def edges (w : Int) (A D : List (List Bool)) : List (Int × Int) :=
  rowsE (fun r c => ((r : Int) * w + c, (r : Int) * w + c + 1)) 0 A ++ rowsE (fun c r => ((r : Int) * w + c, ((r : Int) + 1) * w + c)) 0 D
theorem rowE_length (f : Nat → Int × Int) : ∀ (l : List Bool) (i : Nat), (rowE f i l).length = sm l.length (fun j => b2 (l.getD j false))
  | [], _ => rfl
  | b :: t, i => by
    have ih := rowE_length f t (i + 1)
    rw [List.length_cons, sm_head]
    have e : sm t.length (fun j => b2 ((b :: t).getD (j + 1) false)) = sm t.length (fun j => b2 (t.getD j false)) := sm_congr _ (fun j _ => by simp)
    rw [e, ← ih, rowE]
    cases b <;> simp [b2] <;> omega
theorem rowsE_length (f : Nat → Nat → Int × Int) (m : Nat) : ∀ (l : List (List Bool)) (i : Nat), (∀ x ∈ l, x.length = m) → (rowsE f i l).length = na l.length m l
  | [], _, _ => rfl
  | x :: t, i, h => by
    have ih := rowsE_length f m t (i + 1) (fun y hy => h y (List.mem_cons_of_mem _ hy))
    unfold na at ih ⊢
    rw [List.length_cons, sm_head]
    have e : sm t.length (fun i => sm m (fun j => b2 (ga (x :: t) (i + 1) j))) = sm t.length (fun i => sm m (fun j => b2 (ga t i j))) := sm_congr _ (fun j _ => by simp [ga])
    rw [e, ← ih, rowsE, List.length_append, rowE_length, h x (List.mem_cons_self ..)]
    rfl
theorem Fld.edges_length {R C : Nat} {A D : List (List Bool)} (h : Fld R C A D) (w : Int) : (edges w A D).length = nEdges R C A D := by
  unfold edges nEdges
  rw [List.length_append, rowsE_length _ C A 0 (fun x hx => ?_), rowsE_length _ R D 0 (fun x hx => ?_), h.lA, h.lD]
  · obtain ⟨i, hi, rfl⟩ := List.getElem_of_mem hx
    have := h.rD i (by have := h.lD; omega)
    rwa [getD_mem D i hi] at this
  · obtain ⟨i, hi, rfl⟩ := List.getElem_of_mem hx
    have := h.rA i (by have := h.lA; omega)
    rwa [getD_mem A i hi] at this
/-! The edges around cells. -/
def mk (n m : Nat) (f : Nat → Nat → Bool) : List (List Bool) := (List.range n).map fun i => (List.range m).map (f i)
def arA (R C : Nat) (l : List Bool) (r c : Nat) : Bool := (decide (0 < r) && l.getD ((r - 1) * C + c) false) != (decide (r < R) && l.getD (r * C + c) false)
def arD (R C : Nat) (l : List Bool) (c r : Nat) : Bool := (decide (0 < c) && l.getD (r * C + c - 1) false) != (decide (c < C) && l.getD (r * C + c) false)
def Around (R C : Int) (l : List Bool) : Prop := (1 ≤ R ∧ R ≤ 4) ∧ (1 ≤ C ∧ C ≤ 4) ∧ (l.length : Int) = R * C
instance (R C : Int) (l : List Bool) : Decidable (Around R C l) := by unfold Around; infer_instance
def around (R C : Int) (l : List Bool) : Int × Int × (List (List Bool)) × (List (List Bool)) :=
  if Around R C l then (R, C, mk (R.toNat + 1) C.toNat (arA R.toNat C.toNat l), mk (C.toNat + 1) R.toNat (arD R.toNat C.toNat l)) else (0, 0, [], [])
theorem mk_length (n m : Nat) (f : Nat → Nat → Bool) : (mk n m f).length = n := by simp [mk]
theorem mk_rows (n m : Nat) (f : Nat → Nat → Bool) : ∀ x ∈ mk n m f, x.length = m := by
  intro x h
  unfold mk at h
  obtain ⟨i, _, rfl⟩ := List.mem_map.1 h
  simp
theorem ix (r C c : Nat) (h : r ≤ 4) (hC : C ≤ 4) (hc : c ≤ 4) : wrap64 (wrap64 ((r : Int) * (C : Int)) + (c : Int)) = ((r * C + c : Nat) : Int) := by
  have h1 : (r : Int) * (C : Int) = ((r * C : Nat) : Int) := by simp
  have h2 : r * C ≤ 4 * 4 := Nat.mul_le_mul h hC
  rw [h1, w64 (n := ((r * C : Nat) : Int)) (by omega) (by omega), w64 (by omega) (by omega)]; omega
theorem ix0 (R C : Nat) (h : R ≤ 4) (hC : C ≤ 4) : wrap64 ((R : Int) * (C : Int)) = ((R * C : Nat) : Int) := by
  have h1 : (R : Int) * (C : Int) = ((R * C : Nat) : Int) := by simp
  have h2 : R * C ≤ 4 * 4 := Nat.mul_le_mul h hC
  rw [h1, w64 (n := ((R * C : Nat) : Int)) (by omega) (by omega)]
theorem ix_lt {r R C c : Nat} (h : r < R) (hc : c < C) : r * C + c < R * C := by
  have := Nat.mul_le_mul_right C (show r + 1 ≤ R from h)
  rw [Nat.succ_mul] at this
  omega
/-- A list of rows as it is drawn. -/
def Small (l : List (List Bool)) : Prop := (1 ≤ l.length ∧ l.length ≤ 5) ∧ ∀ x ∈ l, x.length ≤ 4
theorem Small.set_ {l : List (List Bool)} (h : Small l) (i j : Nat) (v : Bool) (hi : i < l.length) : Small (l.set i ((l[i]).set j v)) := by
  refine ⟨by simpa using h.1, fun x hx => ?_⟩
  rcases List.mem_or_eq_of_mem_set hx with hx | rfl
  · exact h.2 x hx
  · rw [List.length_set]; exact h.2 _ (List.getElem_mem hi)
theorem Small.mk_ {n m : Nat} (f : Nat → Nat → Bool) (h : 1 ≤ n ∧ n ≤ 5) (hm : m ≤ 4) : Small (mk n m f) :=
  ⟨by rw [mk_length]; exact h, fun x hx => by rw [mk_rows n m f x hx]; exact hm⟩
/-! Clues. -/
def cntB : List Bool → Nat
  | [] => 0
  | b :: t => b2 b + cntB t
def clue (A D : List (List Bool)) (r c : Nat) : Nat := b2 (ga A r c) + b2 (ga A (r + 1) c) + b2 (ga D c r) + b2 (ga D (c + 1) r)
theorem clue_le (A D : List (List Bool)) (r c : Nat) : clue A D r c ≤ 4 := by
  unfold clue
  have := b2_le (ga A r c); have := b2_le (ga A (r + 1) c); have := b2_le (ga D c r); have := b2_le (ga D (c + 1) r)
  omega
/-- The clue of the cell with the number i. -/
def cl (C : Nat) (A D : List (List Bool)) (i : Nat) : Nat := clue A D (i / C) (i % C)
def clues (R C : Nat) (A D : List (List Bool)) : List Int := (List.range (R * C)).map fun i => (cl C A D i : Int)
theorem cl_at {C : Nat} (A D : List (List Bool)) (r c : Nat) (hc : c < C) : cl C A D (r * C + c) = clue A D r c := by
  unfold cl
  have h1 : (r * C + c) / C = r := by
    rw [Nat.mul_comm, Nat.mul_add_div (by omega), Nat.div_eq_of_lt hc]; rfl
  have h2 : (r * C + c) % C = c := by
    rw [Nat.mul_comm, Nat.mul_add_mod, Nat.mod_eq_of_lt hc]
  rw [h1, h2]
theorem sm_split (f : Nat → Nat) (a : Nat) : ∀ b, sm (a + b) f = sm a f + sm b (fun i => f (a + i))
  | 0 => rfl
  | b + 1 => by
    show sm ((a + b) + 1) f = _
    rw [sm, sm, sm_split f a b]; omega
theorem sm_cells (C : Nat) (A D : List (List Bool)) : ∀ R, sm (R * C) (cl C A D) = sm R (fun r => sm C (fun c => clue A D r c))
  | 0 => by rw [Nat.zero_mul]; rfl
  | R + 1 => by
    rw [Nat.succ_mul, sm_split, sm_cells C A D R, sm]
    congr 1
    exact sm_congr C (fun c hc => cl_at A D R c hc)
theorem sm_two (a : Nat → Nat) (n : Nat) : sm n a + sm n (fun i => a (i + 1)) + (a 0 + a n) = 2 * sm (n + 1) a := by
  have h1 := sm_head a n
  have h2 : sm (n + 1) a = sm n a + a n := rfl
  omega
/-- The edges at the border. -/
def bordA (R C : Nat) (A : List (List Bool)) : Nat := sm C (fun c => b2 (ga A 0 c) + b2 (ga A R c))
theorem sm_clues (R C : Nat) (A D : List (List Bool)) : sm (R * C) (cl C A D) + (bordA R C A + bordA C R D) = 2 * nEdges R C A D := by
  rw [sm_cells]
  have e : sm R (fun r => sm C (fun c => clue A D r c)) = sm R (fun r => sm C (fun c => b2 (ga A r c))) + sm R (fun r => sm C (fun c => b2 (ga A (r + 1) c))) + sm C (fun c => sm R (fun r => b2 (ga D c r))) + sm C (fun c => sm R (fun r => b2 (ga D (c + 1) r))) := by
    rw [← sm_comm (fun i j => b2 (ga D j i)) C R, ← sm_comm (fun i j => b2 (ga D (j + 1) i)) C R, ← sm_add, ← sm_add, ← sm_add]
    refine sm_congr R (fun r _ => ?_)
    rw [← sm_add, ← sm_add, ← sm_add]; rfl
  rw [e]
  have h1 := sm_two (fun r => sm C (fun c => b2 (ga A r c))) R
  have h2 := sm_two (fun c => sm R (fun r => b2 (ga D c r))) C
  have h3 : bordA R C A = sm C (fun c => b2 (ga A 0 c)) + sm C (fun c => b2 (ga A R c)) := sm_add _ _ _
  have h4 : bordA C R D = sm R (fun c => b2 (ga D 0 c)) + sm R (fun c => b2 (ga D C c)) := sm_add _ _ _
  have h5 : nEdges R C A D = sm (R + 1) (fun i => sm C (fun j => b2 (ga A i j))) + sm (C + 1) (fun i => sm R (fun j => b2 (ga D i j))) := rfl
  omega
theorem bordA_le (R C : Nat) (A : List (List Bool)) : bordA R C A ≤ C * 2 := by
  have := sm_le C (f := fun c => b2 (ga A 0 c) + b2 (ga A R c)) (g := fun _ => 2) (fun c _ => by have := b2_le (ga A 0 c); have := b2_le (ga A R c); omega)
  rwa [sm_const] at this
theorem clues_length (R C : Nat) (A D : List (List Bool)) : (clues R C A D).length = R * C := by simp [clues]
theorem clues_get (R C : Nat) (A D : List (List Bool)) (i : Nat) (h : i < R * C) : rd (clues R C A D) (i : Int) = (cl C A D i : Int) := by
  rw [rd_nat _ i (by rw [clues_length]; exact h)]; simp [clues]
end Go.Proofs.Ytdinbpfklikghaa.Mo
