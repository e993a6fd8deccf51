/- Plain lemmas on fields in which every point has an even number of edges: crossings, insides, how many edges. No conditions. -/
import Derived.Test.YtdinbpfklikghaaCl
set_option linter.unusedSimpArgs false
set_option linter.unusedVariables false
namespace Go.Proofs.Ytdinbpfklikghaa.Mo
open Go.RowKit Go.Proofs.Ytdinbpfklikghaa.Pk Go.Proofs.YtdinbpfklikghaaW.PrintWords

/-- An odd number of them? -/
def xs : Nat → (Nat → Bool) → Bool
  | 0, _ => false
  | n + 1, f => xs n f ^^ f n
theorem xs_false (f : Nat → Bool) : ∀ n, (∀ i, i < n → f i = false) → xs n f = false
  | 0, _ => rfl
  | n + 1, h => by rw [xs, xs_false f n (fun i hi => h i (by omega)), h n (by omega)]; rfl
theorem xs_odd (f : Nat → Bool) : ∀ n, xs n f = decide (sm n (fun i => b2 (f i)) % 2 = 1)
  | 0 => rfl
  | n + 1 => by
    rw [xs, sm, xs_odd f n]
    have : sm n (fun i => b2 (f i)) % 2 = 0 ∨ sm n (fun i => b2 (f i)) % 2 = 1 := by omega
    cases f n with
    | true =>
      have e : b2 true = 1 := rfl
      rw [e]
      rcases this with h | h
      · have h' : (sm n (fun i => b2 (f i)) + 1) % 2 = 1 := by omega
        rw [h, h']; rfl
      · have h' : (sm n (fun i => b2 (f i)) + 1) % 2 = 0 := by omega
        rw [h, h']; rfl
    | false =>
      have e : b2 false = 0 := rfl
      rw [e, Nat.add_zero, Bool.xor_false]
/-- Every point has an even number of edges. -/
def EvenP (R C : Nat) (A D : List (List Bool)) : Prop := ∀ r c, r ≤ R → c ≤ C → ((ga A r c ^^ (decide (c ≠ 0) && ga A r (c - 1))) ^^ (ga D c r ^^ (decide (r ≠ 0) && ga D c (r - 1)))) = false
theorem bev : ∀ a a' d d' : Bool, (b2 a + b2 a' + b2 d + b2 d') % 2 = 0 → ((a ^^ a') ^^ (d ^^ d')) = false := by decide
theorem if_b2 (n : Nat) (x : Bool) : (if n = 0 then 0 else b2 x) = b2 (decide (n ≠ 0) && x) := by
  by_cases h : n = 0
  · rw [if_pos h, decide_eq_false (by omega)]; rfl
  · rw [if_neg h, decide_eq_true h, Bool.true_and]
theorem EvenP.of_deg {R C : Nat} {A D : List (List Bool)} (h : ∀ r c, r ≤ R → c ≤ C → deg A D r c % 2 = 0) : EvenP R C A D := by
  intro r c hr hc
  have := h r c hr hc
  unfold deg at this
  rw [if_b2, if_b2] at this
  exact bev _ _ _ _ this
theorem Closed.evenP {R C : Nat} {A D : List (List Bool)} (h : Closed R C A D) : EvenP R C A D :=
  EvenP.of_deg fun r c hr hc => by
    by_cases h0 : deg A D r c = 0
    · rw [h0]
    · rw [(h.2 r c hr hc h0).1]
theorem Fld.swap {R C : Nat} {A D : List (List Bool)} (h : Fld R C A D) : Fld C R D A := ⟨h.hC, h.hR, h.lD, h.lA, h.rD, h.rA⟩
theorem EvenP.swap {R C : Nat} {A D : List (List Bool)} (h : EvenP R C A D) : EvenP C R D A := by
  intro r c hr hc
  have := h c r hc hr
  rw [Bool.xor_comm]; exact this
theorem bool7 : ∀ X q Y a a' d e : Bool, (X ^^ (q && Y)) = a → ((a' ^^ (true && a)) ^^ (d ^^ (q && e))) = false → ((X ^^ d) ^^ (q && (Y ^^ e))) = a' := by decide
theorem bool4 : ∀ a q d e : Bool, ((a ^^ false) ^^ (d ^^ (q && e))) = false → ((false ^^ d) ^^ (q && (false ^^ e))) = a := by decide
theorem EvenP.sweep {R C : Nat} {A D : List (List Bool)} (ev : EvenP R C A D) {r : Nat} (hr : r ≤ R) : ∀ c, c ≤ C →
    (xs (c + 1) (fun i => ga D i r) ^^ (decide (r ≠ 0) && xs (c + 1) (fun i => ga D i (r - 1)))) = ga A r c
  | 0, _ => by
    have := ev r 0 hr (Nat.zero_le _)
    exact bool4 _ _ _ _ this
  | c + 1, hc => by
    have ih := EvenP.sweep ev hr c (by omega)
    have := ev r (c + 1) hr hc
    have e : decide (c + 1 ≠ 0) = true := by simp
    rw [e] at this
    exact bool7 _ _ _ _ _ _ _ ih this
theorem Fld.row_even {R C : Nat} {A D : List (List Bool)} (h : Fld R C A D) (ev : EvenP R C A D) : ∀ r, r ≤ R → xs (C + 1) (fun i => ga D i r) = false
  | 0, hr => by
    have := ev.sweep hr C (Nat.le_refl _)
    rw [h.a0 0 C (.inr (Nat.le_refl _))] at this
    simpa using this
  | r + 1, hr => by
    have ih := Fld.row_even h ev r (by omega)
    have := ev.sweep hr C (Nat.le_refl _)
    rw [h.a0 (r + 1) C (.inr (Nat.le_refl _)), Nat.add_sub_cancel, ih] at this
    simpa using this
theorem sm_even {f : Nat → Nat} : ∀ n, (∀ i, i < n → f i % 2 = 0) → sm n f % 2 = 0
  | 0, _ => rfl
  | n + 1, h => by have := sm_even n (fun i hi => h i (by omega)); have := h n (by omega); rw [sm]; omega
theorem Fld.na_even {R C : Nat} {A D : List (List Bool)} (h : Fld R C A D) (ev : EvenP R C A D) : na (C + 1) R D % 2 = 0 := by
  unfold na
  rw [sm_comm]
  refine sm_even R (fun r hr => ?_)
  have := h.row_even ev r (by omega)
  rw [xs_odd, decide_eq_false_iff_not] at this
  omega
theorem na_zero {n m : Nat} {l : List (List Bool)} (h : na n m l = 0) : ∀ i j, i < n → j < m → ga l i j = false := by
  intro i j hi hj
  have h1 := sm_ge (fun i => sm m (fun j => b2 (ga l i j))) n i hi
  have h2 := sm_ge (fun j => b2 (ga l i j)) m j hj
  unfold na at h
  cases hg : ga l i j with
  | false => rfl
  | true =>
    rw [hg] at h2
    have : b2 true = 1 := rfl
    omega
theorem zero_na {n m : Nat} {l : List (List Bool)} (h : ∀ i j, i < n → j < m → ga l i j = false) : na n m l = 0 :=
  sm_none n fun i hi => sm_none m fun j hj => by rw [h i j hi hj]; rfl
theorem Fld.none {R C : Nat} {A D : List (List Bool)} (h : Fld R C A D) (ev : EvenP R C A D) (h0 : na (R + 1) C A = 0) : na (C + 1) R D = 0 := by
  have hA : ∀ r c, r ≤ R → c ≤ C → ga A r c = false := by
    intro r c hr hc
    by_cases e : c = C
    · exact h.a0 r c (.inr (by omega))
    · exact na_zero h0 r c (by omega) (by omega)
  have hx : ∀ r, r ≤ R → ∀ c, c ≤ C → xs (c + 1) (fun i => ga D i r) = false := by
    intro r
    induction r with
    | zero =>
      intro hr c hc
      have := ev.sweep hr c hc
      rw [hA 0 c hr hc] at this
      simpa using this
    | succ r ih =>
      intro hr c hc
      have := ev.sweep hr c hc
      rw [hA (r + 1) c hr hc, Nat.add_sub_cancel, ih (by omega) c hc] at this
      simpa using this
  refine zero_na (fun c r hc hr => ?_)
  have h1 := hx r (by omega) c (by omega)
  rw [xs] at h1
  cases c with
  | zero => simpa [xs] using h1
  | succ c =>
    rw [hx r (by omega) c (by omega)] at h1
    simpa using h1
theorem Fld.four {R C : Nat} {A D : List (List Bool)} (h : Fld R C A D) (ev : EvenP R C A D) : nEdges R C A D % 2 = 0 ∧ (0 < nEdges R C A D → 4 ≤ nEdges R C A D) := by
  have h1 := h.na_even ev
  have h2 := h.swap.na_even ev.swap
  have h3 := h.none ev
  have h4 := h.swap.none ev.swap
  unfold nEdges
  constructor
  · omega
  · intro h0
    by_cases e1 : na (R + 1) C A = 0
    · have := h3 e1; omega
    · by_cases e2 : na (C + 1) R D = 0
      · exact absurd (h4 e2) e1
      · omega
/-! Fields made of functions. -/
theorem ga_mk (n m : Nat) (f : Nat → Nat → Bool) (i j : Nat) : ga (mk n m f) i j = if i < n ∧ j < m then f i j else false := by
  unfold ga mk
  by_cases hi : i < n
  · have e : ((List.range n).map fun i => (List.range m).map (f i)).getD i [] = (List.range m).map (f i) := by simp [hi]
    rw [e]
    by_cases hj : j < m
    · rw [if_pos ⟨hi, hj⟩]; simp [hj]
    · rw [if_neg (fun hh => hj hh.2)]; simp [hj]
  · have e : ((List.range n).map fun i => (List.range m).map (f i)).getD i [] = [] := by simp [hi]
    rw [e, if_neg (fun hh => hi hh.1)]; rfl
theorem mk_congr {n m : Nat} {f g : Nat → Nat → Bool} (h : ∀ i j, i < n → j < m → f i j = g i j) : mk n m f = mk n m g := by
  unfold mk
  refine List.map_congr_left (fun i hi => List.map_congr_left (fun j hj => h i j (List.mem_range.1 hi) (List.mem_range.1 hj)))
theorem mk_self {n m : Nat} {l : List (List Bool)} (hl : l.length = n) (hr : ∀ i, i < n → (l.getD i []).length = m) : mk n m (ga l) = l := by
  unfold mk
  refine List.ext_getElem (by simp [hl]) (fun i h1 h2 => ?_)
  have hi := hr i (by omega)
  rw [List.getElem_map, List.getElem_range]
  have e : l.getD i [] = l[i] := getD_mem l i h2
  rw [e] at hi
  refine List.ext_getElem (by simp [hi]) (fun j h3 h4 => ?_)
  rw [List.getElem_map, List.getElem_range]
  unfold ga
  rw [e]; simp [h4]
theorem Fld.self {R C : Nat} {A D : List (List Bool)} (h : Fld R C A D) : Mo.mk (R + 1) C (ga A) = A ∧ Mo.mk (C + 1) R (ga D) = D :=
  ⟨mk_self h.lA h.rA, mk_self h.lD h.rD⟩
theorem Fld.of_mk {R C : Nat} (hR : 1 ≤ R ∧ R ≤ 4) (hC : 1 ≤ C ∧ C ≤ 4) (f g : Nat → Nat → Bool) : Fld R C (Mo.mk (R + 1) C f) (Mo.mk (C + 1) R g) := by
  refine ⟨hR, hC, mk_length _ _ _, mk_length _ _ _, fun r hr => ?_, fun c hc => ?_⟩
  · rw [getD_mem _ r (by rw [mk_length]; exact hr)]
    exact mk_rows _ _ _ _ (List.getElem_mem _)
  · rw [getD_mem _ c (by rw [mk_length]; exact hc)]
    exact mk_rows _ _ _ _ (List.getElem_mem _)
/-! Insides. -/
def insd (R C : Nat) (D : List (List Bool)) : List Bool := (List.range (R * C)).map fun i => xs (i % C + 1) (fun c => ga D c (i / C))
theorem insd_length (R C : Nat) (D : List (List Bool)) : (insd R C D).length = R * C := by simp [insd]
theorem insd_at {R C r c : Nat} (D : List (List Bool)) (hr : r < R) (hc : c < C) : (insd R C D).getD (r * C + c) false = xs (c + 1) (fun i => ga D i r) := by
  have hlt := ix_lt hr hc
  have h1 : (r * C + c) / C = r := by
    rw [Nat.mul_comm, Nat.mul_add_div (by omega), Nat.div_eq_of_lt hc]; rfl
  have h2 : (r * C + c) % C = c := by
    rw [Nat.mul_comm, Nat.mul_add_mod, Nat.mod_eq_of_lt hc]
  unfold insd
  simp only [List.getD_eq_getElem?_getD, List.getElem?_map, List.getElem?_range hlt, Option.map_some, Option.getD_some, h1, h2]
theorem bneb : ∀ a b : Bool, (a != b) = (b ^^ a) := by decide
theorem Fld.around_insd {R C : Nat} {A D : List (List Bool)} (h : Fld R C A D) (ev : EvenP R C A D) : Mo.mk (R + 1) C (arA R C (insd R C D)) = A ∧ Mo.mk (C + 1) R (arD R C (insd R C D)) = D := by
  have hX : ∀ r c, r ≤ R → c < C → (decide (r < R) && (insd R C D).getD (r * C + c) false) = xs (c + 1) (fun i => ga D i r) := by
    intro r c hr hc
    by_cases e : r < R
    · rw [insd_at D e hc, decide_eq_true e]; rfl
    · rw [decide_eq_false e, xs_false _ _ (fun i _ => h.d0 i r (.inr (by omega)))]; rfl
  constructor
  · refine Eq.trans (mk_congr fun r c hr hc => ?_) h.self.1
    unfold arA
    rw [hX r c (by omega) hc, bneb, ← ev.sweep (show r ≤ R by omega) c (by omega)]
    congr 1
    by_cases e : r = 0
    · subst e; simp
    · have hx := hX (r - 1) c (by omega) hc
      rw [decide_eq_true (show r - 1 < R by omega), Bool.true_and] at hx
      rw [hx, decide_eq_true (show 0 < r by omega), decide_eq_true (show r ≠ 0 from e)]
  · refine Eq.trans (mk_congr fun c r hc hr => ?_) h.self.2
    unfold arD
    have hx : (decide (c < C) && (insd R C D).getD (r * C + c) false) = xs (c + 1) (fun i => ga D i r) := by
      by_cases e : c < C
      · rw [insd_at D hr e, decide_eq_true e]; rfl
      · have e2 : c = C := by omega
        rw [decide_eq_false e, e2, h.row_even ev r (by omega)]; rfl
    rw [hx, bneb, xs]
    cases c with
    | zero => simp [xs]
    | succ c =>
      have hx2 : (decide (0 < c + 1) && (insd R C D).getD (r * C + (c + 1) - 1) false) = xs (c + 1) (fun i => ga D i r) := by
        have e : r * C + (c + 1) - 1 = r * C + c := by omega
        rw [e, insd_at D hr (by omega)]; simp
      rw [hx2]
      generalize xs (c + 1) (fun i => ga D i r) = X
      generalize ga D (c + 1) r = d
      revert X d; decide
/-- A cell with its numbers one more: outside of the field nothing is inside. -/
def jn (R C : Nat) (l : List Bool) (y x : Nat) : Bool := decide (0 < y ∧ y ≤ R ∧ 0 < x ∧ x ≤ C) && l.getD ((y - 1) * C + (x - 1)) false
theorem jn_out {R C : Nat} {l : List Bool} {y x : Nat} (h : ¬ (0 < y ∧ y ≤ R ∧ 0 < x ∧ x ≤ C)) : jn R C l y x = false := by
  unfold jn; rw [decide_eq_false h]; rfl
theorem ar_A {R C r c : Nat} (l : List Bool) (hr : r ≤ R) (hc : c ≤ C) : ga (mk (R + 1) C (arA R C l)) r c = (jn R C l r (c + 1) ^^ jn R C l (r + 1) (c + 1)) := by
  rw [ga_mk]
  by_cases e : c < C
  · rw [if_pos ⟨by omega, e⟩]
    unfold arA jn
    have e1 : decide (0 < r ∧ r ≤ R ∧ 0 < c + 1 ∧ c + 1 ≤ C) = decide (0 < r) := decide_eq_decide.2 (by omega)
    have e2 : decide (0 < r + 1 ∧ r + 1 ≤ R ∧ 0 < c + 1 ∧ c + 1 ≤ C) = decide (r < R) := decide_eq_decide.2 (by omega)
    rw [e1, e2, Nat.add_sub_cancel, Nat.add_sub_cancel]
  · rw [if_neg (fun hh => e hh.2), jn_out (by omega), jn_out (by omega)]; rfl
theorem ar_D {R C r c : Nat} (l : List Bool) (hr : r ≤ R) (hc : c ≤ C) : ga (mk (C + 1) R (arD R C l)) c r = (jn R C l (r + 1) c ^^ jn R C l (r + 1) (c + 1)) := by
  rw [ga_mk]
  by_cases e : r < R
  · rw [if_pos ⟨by omega, e⟩]
    unfold arD jn
    have e1 : decide (0 < r + 1 ∧ r + 1 ≤ R ∧ 0 < c ∧ c ≤ C) = decide (0 < c) := decide_eq_decide.2 (by omega)
    have e2 : decide (0 < r + 1 ∧ r + 1 ≤ R ∧ 0 < c + 1 ∧ c + 1 ≤ C) = decide (c < C) := decide_eq_decide.2 (by omega)
    rw [e1, e2, Nat.add_sub_cancel, Nat.add_sub_cancel]
    by_cases h0 : 0 < c
    · have e3 : r * C + c - 1 = r * C + (c - 1) := by omega
      rw [e3]
    · rw [decide_eq_false h0]; rfl
  · rw [if_neg (fun hh => e hh.2), jn_out (by omega), jn_out (by omega)]; rfl
theorem bool4b : ∀ a b c d : Bool, (((a ^^ b) ^^ (c ^^ d)) ^^ ((d ^^ b) ^^ (c ^^ a))) = false := by decide
theorem around_even (R C : Nat) (l : List Bool) : EvenP R C (mk (R + 1) C (arA R C l)) (mk (C + 1) R (arD R C l)) := by
  intro r c hr hc
  rw [ar_A l hr hc, ar_D l hr hc]
  have e1 : (decide (c ≠ 0) && ga (mk (R + 1) C (arA R C l)) r (c - 1)) = (jn R C l r c ^^ jn R C l (r + 1) c) := by
    by_cases h0 : c = 0
    · rw [decide_eq_false (by omega), jn_out (by omega), jn_out (by omega)]; rfl
    · rw [ar_A l hr (by omega), decide_eq_true h0, show c - 1 + 1 = c by omega]; rfl
  have e2 : (decide (r ≠ 0) && ga (mk (C + 1) R (arD R C l)) c (r - 1)) = (jn R C l r c ^^ jn R C l r (c + 1)) := by
    by_cases h0 : r = 0
    · rw [decide_eq_false (by omega), jn_out (by omega), jn_out (by omega)]; rfl
    · rw [ar_D l (by omega) hc, decide_eq_true h0, show r - 1 + 1 = r by omega]; rfl
  rw [e1, e2]
  exact bool4b _ _ _ _
theorem insd_around {R C : Nat} {l : List Bool} (hl : l.length = R * C) : insd R C (mk (C + 1) R (arD R C l)) = l := by
  unfold insd
  refine List.ext_getElem (by simp [hl]) (fun i h1' h2 => ?_)
  have h1 : i < R * C := by omega
  have hC : 0 < C := by
    apply Nat.pos_of_ne_zero
    intro e; subst e; omega
  have hr : i / C < R := Nat.div_lt_of_lt_mul (by rw [Nat.mul_comm]; exact h1)
  have hc : i % C < C := Nat.mod_lt _ hC
  have hi : i / C * C + i % C = i := by rw [Nat.mul_comm]; exact Nat.div_add_mod i C
  have key : ∀ c, c ≤ C → xs c (fun c' => ga (mk (C + 1) R (arD R C l)) c' (i / C)) = jn R C l (i / C + 1) c := by
    intro c
    induction c with
    | zero => intro _; rw [jn_out (by omega)]; rfl
    | succ c ih =>
      intro hcc
      rw [xs, ih (by omega), ar_D l (by omega) (by omega)]
      generalize jn R C l (i / C + 1) c = a
      generalize jn R C l (i / C + 1) (c + 1) = b
      revert a b; decide
  have e := key (i % C + 1) (by omega)
  have e2 : jn R C l (i / C + 1) (i % C + 1) = l[i] := by
    unfold jn
    rw [decide_eq_true ⟨Nat.succ_pos _, hr, Nat.succ_pos _, hc⟩, Nat.add_sub_cancel, Nat.add_sub_cancel, hi]
    simp [h2]
  rw [List.getElem_map, List.getElem_range, e, e2]
theorem Fld.insd_some {R C : Nat} {A D : List (List Bool)} (h : Fld R C A D) (ev : EvenP R C A D) (hn : 0 < nEdges R C A D) : ∃ i, i < R * C ∧ (insd R C D).getD i false = true := by
  apply Classical.byContradiction
  intro hno
  have hf : ∀ i, (insd R C D).getD i false = false := by
    intro i
    by_cases hi : i < R * C
    · cases hb : (insd R C D).getD i false with
      | false => rfl
      | true => exact absurd ⟨i, hi, hb⟩ hno
    · rw [List.getD_eq_getElem?_getD, List.getElem?_eq_none (by rw [insd_length]; omega)]; rfl
  obtain ⟨h1, h2⟩ := h.around_insd ev
  have n1 : na (R + 1) C A = 0 := by
    rw [← h1]
    refine zero_na (fun i j hi hj => ?_)
    rw [ga_mk, if_pos ⟨hi, hj⟩]
    unfold arA
    rw [hf, hf, Bool.and_false, Bool.and_false]; rfl
  have := h.none ev n1
  unfold nEdges at hn
  omega
/-- Without one of its edges a closed loop is not closed. -/
theorem Closed.without {R C : Nat} {A A' D : List (List Bool)} (h : Closed R C A D) {k c : Nat} (hk : k ≤ R) (hc : c ≤ C) (h1 : ga A k c = true) (h2 : ga A' k c = false) (h3 : c ≠ 0 → ga A' k (c - 1) = ga A k (c - 1)) : ¬ Closed R C A' D := by
  intro h'
  have e := h.evenP k c hk hc
  have e' := h'.evenP k c hk hc
  rw [h1] at e
  rw [h2] at e'
  have e3 : (decide (c ≠ 0) && ga A' k (c - 1)) = (decide (c ≠ 0) && ga A k (c - 1)) := by
    by_cases h0 : c = 0
    · rw [decide_eq_false (by omega)]; rfl
    · rw [h3 h0]
  rw [e3] at e'
  generalize (decide (c ≠ 0) && ga A k (c - 1)) = x at e e'
  generalize (ga D c k ^^ (decide (k ≠ 0) && ga D c (k - 1))) = y at e e'
  revert x y; decide
theorem Closed.across {R C : Nat} {A D : List (List Bool)} (hf : Fld R C A D) (h : Closed R C A D) : na (R + 1) C A ≠ 0 := by
  intro h0
  have := hf.none h.evenP h0
  have := h.1
  unfold nEdges at this
  omega
theorem arA_jn {R C r c : Nat} (l : List Bool) (hr : r ≤ R) (hc : c < C) : arA R C l r c = (jn R C l r (c + 1) != jn R C l (r + 1) (c + 1)) := by
  have := ar_A l hr (Nat.le_of_lt hc)
  rw [ga_mk, if_pos ⟨by omega, hc⟩] at this
  exact this
theorem arD_jn {R C r c : Nat} (l : List Bool) (hr : r < R) (hc : c ≤ C) : arD R C l c r = (jn R C l (r + 1) c != jn R C l (r + 1) (c + 1)) := by
  have := ar_D l (Nat.le_of_lt hr) hc
  rw [ga_mk, if_pos ⟨by omega, hr⟩] at this
  exact this
theorem around_pos {R C : Nat} {l : List Bool} (hR : 1 ≤ R ∧ R ≤ 4) (hC : 1 ≤ C ∧ C ≤ 4) (hl : l.length = R * C) : around (R : Int) (C : Int) l = ((R : Int), (C : Int), mk (R + 1) C (arA R C l), mk (C + 1) R (arD R C l)) := by
  unfold around
  rw [if_pos ⟨by omega, by omega, by rw [hl]; simp⟩, Int.toNat_natCast, Int.toNat_natCast]
theorem mk_short (n m : Nat) (f : Nat → Nat → Bool) (hn : n ≤ 1048576) (hm : m ≤ 1048576) : Short (mk n m f) :=
  ⟨by rw [mk_length]; exact hn, fun x hx => by rw [mk_rows n m f x hx]; exact hm⟩
theorem around_short (R C : Int) (l : List Bool) : Short (around R C l).2.2.1 ∧ Short (around R C l).2.2.2 := by
  unfold around
  by_cases h : Around R C l
  · rw [if_pos h]
    have := h.1; have := h.2.1
    exact ⟨mk_short _ _ _ (by omega) (by omega), mk_short _ _ _ (by omega) (by omega)⟩
  · rw [if_neg h]
    exact ⟨⟨by simp, fun x hx => by cases hx⟩, ⟨by simp, fun x hx => by cases hx⟩⟩
end Go.Proofs.Ytdinbpfklikghaa.Mo
