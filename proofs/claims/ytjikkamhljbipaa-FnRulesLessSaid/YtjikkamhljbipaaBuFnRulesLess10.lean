/- Texts for the row of the law FnRulesLess, part 10: the plain machine, the program's functions on it, what they come to. No conditions. -/
import Derived.Test.YtjikkamhljbipaaBuFnRulesLess9
import Derived.Test.YtjikkamhljbipaaAb
import Derived.Test.YtjikkamhljbipaaOr
import Derived.Test.YtjikkamhljbipaaBuFnRulesLess8
import Derived.Test.YtjikkamhljbipaaBuFnRulesLess4
/- When a value stands twice in a line; filling one cell. No conditions. -/
set_option linter.unusedVariables false
set_option linter.unusedSimpArgs false
namespace Go.Proofs.Ytjikkamhljbipaa.Rp
open Go Go.RowKit Go.Proofs.Ytjikkamhljbipaa.Ab

theorem zt2 : (2 : Int).toNat = 2 := rfl
theorem zt3 : (3 : Int).toNat = 3 := rfl
theorem zt4 : (4 : Int).toNat = 4 := rfl
theorem clashL_iff (g : List Int) : ∀ (cells seen : List Int), clashL g cells seen = true ↔ ∃ i, i < cells.length ∧ 0 < gv g (cells.getD i 0) ∧ (gv g (cells.getD i 0) ∈ seen ∨ ∃ j, j < i ∧ gv g (cells.getD j 0) = gv g (cells.getD i 0))
  | [], seen => by simp [clashL]
  | c :: cs, seen => by
    rw [clashL, Bool.or_eq_true, Bool.and_eq_true, decide_eq_true_eq, List.contains_iff_mem, clashL_iff g cs]
    constructor
    · rintro (⟨h1, h2⟩ | ⟨i, hi, h1, h2⟩)
      · exact ⟨0, by simp, h1, .inl h2⟩
      · refine ⟨i + 1, by simpa using hi, h1, ?_⟩
        rcases h2 with h2 | ⟨j, hj, h2⟩
        · rcases List.mem_cons.1 h2 with e | e
          · exact .inr ⟨0, by omega, e.symm⟩
          · exact .inl e
        · exact .inr ⟨j + 1, by omega, h2⟩
    · rintro ⟨i, hi, h1, h2⟩
      cases i with
      | zero =>
        rcases h2 with h2 | ⟨j, hj, _⟩
        · exact .inl ⟨h1, h2⟩
        · omega
      | succ i =>
        refine .inr ⟨i, by simpa using hi, h1, ?_⟩
        rcases h2 with h2 | ⟨j, hj, h2⟩
        · exact .inl (List.mem_cons_of_mem _ h2)
        · cases j with
          | zero => exact .inl (by have e : gv g c = gv g (cs.getD i 0) := h2; rw [← e]; exact List.mem_cons_self)
          | succ j => exact .inr ⟨j, by omega, h2⟩
theorem clashFrom_iff (g : List Int) (n : Int) : ∀ (j line : Nat), clashFrom g n line j = true ↔ ∃ ln : Nat, line ≤ ln ∧ ln < line + j ∧ clashL g (lineCells n ln) [] = true
  | 0, line => by simp [clashFrom]; omega
  | j + 1, line => by
    rw [clashFrom, Bool.or_eq_true, clashFrom_iff g n j]
    constructor
    · rintro (h | ⟨ln, h1, h2, h3⟩)
      · exact ⟨line, Nat.le_refl _, by omega, h⟩
      · exact ⟨ln, by omega, by omega, h3⟩
    · rintro ⟨ln, h1, h2, h3⟩
      by_cases e : ln = line
      · subst e; exact .inl h3
      · exact .inr ⟨ln, by omega, by omega, h3⟩
def sameLine (N x y : Nat) : Prop := x / N = y / N ∨ x % N = y % N
theorem line_at {n : Int} (hn : 2 ≤ n ∧ n ≤ 4) {ln i : Nat} (hl : (ln : Int) < 2 * n) (hi : (i : Int) < n) : (lineCells n ln).getD i 0 = lineCell n ln i ∧ (lineCells n ln).length = n.toNat := by
  unfold lineCells
  rw [if_pos ⟨hn, by omega, hl⟩]
  refine ⟨?_, by simp⟩
  rw [List.getD_eq_getElem?_getD, List.getElem?_map, List.getElem?_range (by omega)]; rfl
theorem clash_iff {n : Int} (hn : 2 ≤ n ∧ n ≤ 4) (g : List Int) : clash g n = true ↔ ∃ x y : Nat, x < n.toNat * n.toNat ∧ y < n.toNat * n.toNat ∧ x ≠ y ∧ sameLine n.toNat x y ∧ 0 < g.getD x 0 ∧ g.getD y 0 = g.getD x 0 := by
  have e0 : clash g n = clashFrom g n 0 (2 * n).toNat := rfl
  rw [e0, clashFrom_iff]
  have gvd : ∀ c : Int, gv g c = g.getD c.toNat 0 := fun _ => rfl
  constructor
  · rintro ⟨ln, _, h2, h3⟩
    have hl : (ln : Int) < 2 * n := by omega
    rw [clashL_iff] at h3
    obtain ⟨i, hi, h4, h5⟩ := h3
    rw [(line_at hn hl (i := 0) (by omega)).2] at hi
    have hi' : (i : Int) < n := by omega
    rcases h5 with h5 | ⟨j, hj, h5⟩
    · cases h5
    rw [(line_at hn hl hi').1, gvd] at h4 h5
    rw [(line_at hn hl (i := j) (by omega)).1, gvd] at h5
    refine ⟨(lineCell n ln i).toNat, (lineCell n ln j).toNat, ?_, ?_, ?_, ?_, h4, h5⟩
    all_goals
      have : n = 2 ∨ n = 3 ∨ n = 4 := by omega
      unfold lineCell
      try unfold sameLine
      rcases this with rfl | rfl | rfl
    all_goals
      split
    all_goals
      try simp only [zt2, zt3, zt4] at *
      omega
  · rintro ⟨x, y, hx, hy, hne, hs, h1, h2⟩
    have key : ∀ x y : Nat, x < n.toNat * n.toNat → y < n.toNat * n.toNat → ∀ ln i j : Nat, (ln : Int) < 2 * n → (i : Int) < n → j < i → (lineCell n ln i).toNat = x → (lineCell n ln j).toNat = y → 0 < g.getD x 0 → g.getD y 0 = g.getD x 0 → ∃ ln : Nat, 0 ≤ ln ∧ ln < 0 + (2 * n).toNat ∧ clashL g (lineCells n ln) [] = true := by
      intro x y hx hy ln i j hl hi hj e1 e2 h1 h2
      refine ⟨ln, by omega, by omega, (clashL_iff _ _ _).2 ⟨i, by rw [(line_at hn hl hi).2]; omega, ?_, .inr ⟨j, hj, ?_⟩⟩⟩
      · rw [(line_at hn hl hi).1, gvd, e1]; exact h1
      · rw [(line_at hn hl hi).1, (line_at hn hl (i := j) (by omega)).1, gvd, gvd, e1, e2]; exact h2
    have hrow : ∀ x y : Nat, x < n.toNat * n.toNat → y < n.toNat * n.toNat → x / n.toNat = y / n.toNat → y % n.toNat < x % n.toNat → 0 < g.getD x 0 → g.getD y 0 = g.getD x 0 → ∃ ln : Nat, 0 ≤ ln ∧ ln < 0 + (2 * n).toNat ∧ clashL g (lineCells n ln) [] = true := by
      intro x y hx hy h3 h4 h1 h2
      refine key x y hx hy (x / n.toNat) (x % n.toNat) (y % n.toNat) ?_ ?_ h4 ?_ ?_ h1 h2
      all_goals
        have : n = 2 ∨ n = 3 ∨ n = 4 := by omega
        try unfold lineCell
        rcases this with rfl | rfl | rfl
      all_goals
        try split
      all_goals
        try simp only [zt2, zt3, zt4] at *
        omega
    have hcol : ∀ x y : Nat, x < n.toNat * n.toNat → y < n.toNat * n.toNat → x % n.toNat = y % n.toNat → y / n.toNat < x / n.toNat → 0 < g.getD x 0 → g.getD y 0 = g.getD x 0 → ∃ ln : Nat, 0 ≤ ln ∧ ln < 0 + (2 * n).toNat ∧ clashL g (lineCells n ln) [] = true := by
      intro x y hx hy h3 h4 h1 h2
      refine key x y hx hy (n.toNat + x % n.toNat) (x / n.toNat) (y / n.toNat) ?_ ?_ h4 ?_ ?_ h1 h2
      all_goals
        have : n = 2 ∨ n = 3 ∨ n = 4 := by omega
        try unfold lineCell
        rcases this with rfl | rfl | rfl
      all_goals
        try split
      all_goals
        try simp only [zt2, zt3, zt4] at *
        omega
    have h2' : g.getD x 0 = g.getD y 0 := h2.symm
    have h1' : 0 < g.getD y 0 := by omega
    have hxy : x / n.toNat = y / n.toNat → x % n.toNat ≠ y % n.toNat := fun h3 h4 => hne (by rw [← Nat.div_add_mod x n.toNat, ← Nat.div_add_mod y n.toNat, h3, h4])
    rcases hs with hs | hs
    · rcases Nat.lt_or_gt_of_ne (hxy hs) with h | h
      · exact hrow y x hy hx hs.symm h h1' h2'
      · exact hrow x y hx hy hs h h1 h2
    · have : x / n.toNat ≠ y / n.toNat := fun h => hxy h hs
      rcases Nat.lt_or_gt_of_ne this with h | h
      · exact hcol y x hy hx hs.symm h h1' h2'
      · exact hcol x y hx hy hs h h1 h2

/-! ### One cell more -/
/-- Does the value of a cell stand in another cell of its lines, from the cell k of them on? -/
def cellFrom (N : Nat) (g : List Int) (at' : Nat) : Nat → Nat → Bool
  | _, 0 => false
  | k, j + 1 => (decide (at' / N * N + k ≠ at') && decide (g.getD (at' / N * N + k) 0 = g.getD at' 0)) || ((decide (k * N + at' % N ≠ at') && decide (g.getD (k * N + at' % N) 0 = g.getD at' 0)) || cellFrom N g at' (k + 1) j)
theorem cellFrom_iff (N : Nat) (g : List Int) (at' : Nat) : ∀ (j k : Nat), cellFrom N g at' k j = true ↔ ∃ u, k ≤ u ∧ u < k + j ∧ ((at' / N * N + u ≠ at' ∧ g.getD (at' / N * N + u) 0 = g.getD at' 0) ∨ (u * N + at' % N ≠ at' ∧ g.getD (u * N + at' % N) 0 = g.getD at' 0))
  | 0, k => by simp [cellFrom]; omega
  | j + 1, k => by
    rw [cellFrom, Bool.or_eq_true, Bool.or_eq_true, Bool.and_eq_true, Bool.and_eq_true, cellFrom_iff N g at' j]
    simp only [decide_eq_true_eq]
    constructor
    · rintro (h | h | ⟨u, h1, h2, h3⟩)
      · exact ⟨k, Nat.le_refl _, by omega, .inl h⟩
      · exact ⟨k, Nat.le_refl _, by omega, .inr h⟩
      · exact ⟨u, by omega, by omega, h3⟩
    · rintro ⟨u, h1, h2, h3⟩
      by_cases e : u = k
      · subst e
        rcases h3 with h3 | h3
        · exact .inl h3
        · exact .inr (.inl h3)
      · exact .inr (.inr ⟨u, by omega, by omega, h3⟩)
def cellFitsV (n : Int) (vs : List V) (g : List Int) (at' : Nat) : Bool := !cellFrom n.toNat g at' 0 n.toNat && vs.all fun r => !r.2.1.contains (at' : Int) || canHoldV n g r
theorem cell_clash {n : Int} (hn : 2 ≤ n ∧ n ≤ 4) {g : List Int} (hl : g.length = n.toNat * n.toNat) {at' : Nat} (ha : at' < g.length) {v : Int} (hv : 1 ≤ v) (hc : clash g n = false) (h0 : g.getD at' 0 = 0) : clash (g.set at' v) n = cellFrom n.toNat (g.set at' v) at' 0 n.toNat := by
  have hat : (g.set at' v).getD at' 0 = v := by rw [getD_set, if_pos ⟨rfl, ha⟩]
  have hne : ∀ x, x ≠ at' → (g.set at' v).getD x 0 = g.getD x 0 := fun x hx => by rw [getD_set, if_neg (by omega)]
  have hno : ¬ ∃ x y : Nat, x < n.toNat * n.toNat ∧ y < n.toNat * n.toNat ∧ x ≠ y ∧ sameLine n.toNat x y ∧ 0 < g.getD x 0 ∧ g.getD y 0 = g.getD x 0 := by
    intro h; rw [← clash_iff hn] at h; rw [h] at hc; cases hc
  rw [Bool.eq_iff_iff, clash_iff hn, cellFrom_iff, hat]
  have one : ∀ x, x < n.toNat * n.toNat → x ≠ at' → sameLine n.toNat at' x → (g.set at' v).getD x 0 = v → ∃ u, 0 ≤ u ∧ u < 0 + n.toNat ∧ ((at' / n.toNat * n.toNat + u ≠ at' ∧ (g.set at' v).getD (at' / n.toNat * n.toNat + u) 0 = v) ∨ (u * n.toNat + at' % n.toNat ≠ at' ∧ (g.set at' v).getD (u * n.toNat + at' % n.toNat) 0 = v)) := by
    intro x hx hxa hs hgx
    rcases hs with hs | hs
    · refine ⟨x % n.toNat, Nat.zero_le _, by have := Nat.mod_lt x (show n.toNat > 0 by omega); omega, .inl ?_⟩
      have e : at' / n.toNat * n.toNat + x % n.toNat = x := by rw [hs, Nat.mul_comm]; exact Nat.div_add_mod x n.toNat
      rw [e]; exact ⟨hxa, hgx⟩
    · refine ⟨x / n.toNat, Nat.zero_le _, by have := Nat.div_lt_of_lt_mul hx; omega, .inr ?_⟩
      have e : x / n.toNat * n.toNat + at' % n.toNat = x := by rw [hs, Nat.mul_comm]; exact Nat.div_add_mod x n.toNat
      rw [e]; exact ⟨hxa, hgx⟩
  constructor
  · rintro ⟨x, y, hx, hy, hxy, hs, h1, h2⟩
    by_cases ex : x = at'
    · subst ex
      rw [hat] at h2
      exact one y hy (Ne.symm hxy) hs h2
    · by_cases ey : y = at'
      · subst ey
        rw [hat] at h2
        exact one x hx ex (by rcases hs with h | h; exact .inl h.symm; exact .inr h.symm) h2.symm
      · rw [hne x ex] at h1 h2
        rw [hne y ey] at h2
        exact absurd ⟨x, y, hx, hy, hxy, hs, h1, h2⟩ hno
  · rintro ⟨u, _, hu, h⟩
    have hdm := Nat.div_add_mod at' n.toNat
    have hmul : n.toNat * (at' / n.toNat) = at' / n.toNat * n.toNat := Nat.mul_comm _ _
    have : n = 2 ∨ n = 3 ∨ n = 4 := by omega
    rcases h with ⟨h1, h2⟩ | ⟨h1, h2⟩
    · refine ⟨at', at' / n.toNat * n.toNat + u, by omega, ?_, Ne.symm h1, .inl ?_, by rw [hat]; omega, by rw [hat, h2]⟩
      all_goals
        rcases this with rfl | rfl | rfl <;> try simp only [zt2, zt3, zt4] at * <;> omega
    · refine ⟨at', u * n.toNat + at' % n.toNat, by omega, ?_, Ne.symm h1, .inr ?_, by rw [hat]; omega, by rw [hat, h2]⟩
      all_goals
        rcases this with rfl | rfl | rfl <;> try simp only [zt2, zt3, zt4] at * <;> omega
theorem own_away {n : Int} {g : List Int} {at' : Nat} {v : Int} {cells : List Int} (hc : ¬ (at' : Int) ∈ cells) (hp : ∀ c ∈ cells, 0 ≤ c) : ownOf (openOf n (g.set at' v)) cells = ownOf (openOf n g) cells := by
  unfold ownOf
  refine List.map_congr_left fun c hm => ?_
  have hne : at' ≠ c.toNat := fun e => hc (by have := hp c hm; rw [show (at' : Int) = c by omega]; exact hm)
  unfold gv openOf
  rw [List.getD_eq_getElem?_getD, List.getD_eq_getElem?_getD, List.getElem?_map, List.getElem?_map, List.getElem?_set_ne hne]
theorem fits_step {n : Int} {given : List Int} {vs : List V} {g : List Int} (hf : fitsV n given vs g = true) (hg : gridOk g n = true) (hle : Le given g) (hgg : ∀ x, 0 ≤ given.getD x 0) {at' : Nat} (ha : at' < g.length) (h0 : g.getD at' 0 = 0) {v : Int} (hv : 1 ≤ v ∧ v ≤ n) (hro : ∀ r ∈ vs, ruleOkV n r = true) :
    fitsV n given vs (g.set at' v) = cellFitsV n vs (g.set at' v) at' := by
  obtain ⟨hn, h2, _⟩ := (gridOk_iff g n).1 hg
  unfold fitsV at hf ⊢
  simp only [Bool.and_eq_true, Bool.not_eq_true', List.all_eq_true] at hf
  obtain ⟨f1, f2, f3⟩ := hf
  have hl : g.length = n.toNat * n.toNat := by
    have : n = 2 ∨ n = 3 ∨ n = 4 := by omega
    rcases this with rfl | rfl | rfl <;> simp <;> omega
  have hc : compatB given (g.set at' v) = true := by
    rw [compatB_iff] at f1 ⊢
    intro x hx h1 h3
    rw [getD_set] at h3 ⊢
    have hx' : x < g.length := by simpa using hx
    by_cases e : at' = x
    · subst e
      rcases hle.2 at' with e | e <;> omega
    · rw [if_neg (by omega)] at h3 ⊢; exact f1 x hx' h1 h3
  unfold cellFitsV
  rw [hc, Bool.true_and, cell_clash hn hl ha hv.1 f3 h0, Bool.and_comm]
  congr 1
  rw [Bool.eq_iff_iff, List.all_eq_true, List.all_eq_true]
  refine forall_congr' fun r => forall_congr' fun hr => ?_
  by_cases hm : (at' : Int) ∈ r.2.1
  · have : r.2.1.contains (at' : Int) = true := List.contains_iff_mem.2 hm
    rw [this]; simp
  · have : r.2.1.contains (at' : Int) = false := by rw [← Bool.not_eq_true, List.contains_iff_mem]; exact hm
    rw [this]
    have e : canHoldV n (g.set at' v) r = canHoldV n g r := by
      unfold canHoldV
      rw [own_away hm fun c h => ((ruleOk_cells (hro r hr)).1 c h).1]
    rw [e, f2 r hr]; simp
end Go.Proofs.Ytjikkamhljbipaa.Rp
/- Functions of the program as plain Lean functions. No conditions. -/
set_option linter.unusedVariables false
set_option linter.unusedSimpArgs false
set_option maxRecDepth 100000
namespace Go.Proofs.Ytjikkamhljbipaa.Rp
open Go Go.Proofs.Ytjikkamhljbipaa.Ab
noncomputable def slices_Clone_int.body : Code := (Go.Proofs.Try.f55).body.getD .skip
noncomputable def slices_Clone_int.f (rec : Rec) (k : Nat) (a0 : Sl) (H : Hp) : An := bif a0.nil then some (.sl 1 Sl.none, H) else (H.read 1 a0).bind fun c2 => (H.appl 1 [] 0 a0.len c2).bind fun w1 => bif true && c2.all AV.cell then some (.sl 1 w1.1, w1.2) else none
theorem slices_Clone_int.f_eq (rec : Rec) (k : Nat) : ∀ a0 H, slices_Clone_int.f rec k a0 H = ex PP (orc slices_Clone_int.id) rec k slices_Clone_int.body (St.of 8 [(0, .sl 1 a0)] []) H (K0 PP Go.Proofs.Try.f55) := by
  intros a0 H
  unfold slices_Clone_int.f
  kernel_rfl
theorem slices_Clone_int.call (k : Nat) : ∀ a0 H, callF PP orc (k + 1) slices_Clone_int.id [.sl 1 a0] H = slices_Clone_int.f (callF PP orc k) k a0 H := by
  intros a0 H
  rw [callF_at (fn := Go.Proofs.Try.f55) (c := slices_Clone_int.body) Go.Proofs.Try.func55 (by kernel_rfl) (Nat.le_of_ble_eq_true (by kernel_rfl)), slices_Clone_int.f_eq]
  kernel_rfl
noncomputable def impl_cellFits.body : Code := (Go.Proofs.Try.f84).body.getD .skip
noncomputable def impl_cellFits.j4 (rec : Rec) (k : Nat) (L0 : Sl → Int → Int → Int → Int → Int → Sl → Sl → Hp → An) (x1 : Sl) (x2 : Int) (x7 : Int) (x15 : Int) (x16 : Int) (y3_0 : Int) (y3_1 : Sl) (y3_2 : Sl) (H : Hp) : An := L0 x1 x2 x7 x15 (IntKind.i64.wrap (x16 + 1)) y3_0 y3_1 y3_2 H
noncomputable def impl_cellFits.j6 (rec : Rec) (k : Nat) (L0 : Sl → Int → Int → Int → Int → Int → Sl → Sl → Hp → An) (L1 : Sl → Int → Int → Int → Int → Sl → Int → Int → Int → Sl → Sl → Hp → An) (x1 : Sl) (x2 : Int) (x7 : Int) (x15 : Int) (x16 : Int) (x33 : Sl) (x34 : Int) (x35 : Int) (y3_0 : Int) (y3_1 : Sl) (y3_2 : Sl) (H : Hp) : An := L1 x1 x2 x7 x15 x16 x33 x34 (IntKind.i64.wrap (x35 + 1)) y3_0 y3_1 y3_2 H
noncomputable def impl_cellFits.j3 (rec : Rec) (k : Nat) (L0 : Sl → Int → Int → Int → Int → Int → Sl → Sl → Hp → An) (L1 : Sl → Int → Int → Int → Int → Sl → Int → Int → Int → Sl → Sl → Hp → An) (x1 : Sl) (x2 : Int) (x7 : Int) (x15 : Int) (x16 : Int) (x33 : Sl) (x34 : Int) (x35 : Int) (x52 : Bool) (y3_0 : Int) (y3_1 : Sl) (y3_2 : Sl) (H : Hp) : An := bif x52 then some (.bool false, H) else impl_cellFits.j6 rec k L0 L1 x1 x2 x7 x15 x16 x33 x34 x35 y3_0 y3_1 y3_2 H
noncomputable def impl_cellFits.l1 (rec : Rec) (k : Nat) (L0 : Sl → Int → Int → Int → Int → Int → Sl → Sl → Hp → An) : Nat → Sl → Int → Int → Int → Int → Sl → Int → Int → Int → Sl → Sl → Hp → An
  | 0, _, _, _, _, _, _, _, _, _, _, _, _ => none
  | n + 1, x1, x2, x7, x15, x16, x33, x34, x35, y3_0, y3_1, y3_2, H => bif decide (x35 < x34) then bif decide (0 ≤ (x35 : Int)) && decide ((x35 : Int) < x33.len) then (ldI .i64 H x33.blk (x33.off + (x35 : Int).toNat * 1)).bind fun n1 => bif n1 != x2 then bif decide (0 ≤ (n1 : Int)) && decide ((n1 : Int) < x1.len) then (ldI .i64 H x1.blk (x1.off + (n1 : Int).toNat * 1)).bind fun n2 => bif decide (0 ≤ (x2 : Int)) && decide ((x2 : Int) < x1.len) then (ldI .i64 H x1.blk (x1.off + (x2 : Int).toNat * 1)).bind fun n3 => impl_cellFits.j3 rec k L0 (impl_cellFits.l1 rec k L0 n) x1 x2 x7 x15 x16 x33 x34 x35 (n2 == n3) y3_0 y3_1 y3_2 H else none else none else impl_cellFits.j3 rec k L0 (impl_cellFits.l1 rec k L0 n) x1 x2 x7 x15 x16 x33 x34 x35 false y3_0 y3_1 y3_2 H else none else impl_cellFits.j4 rec k L0 x1 x2 x7 x15 x16 y3_0 y3_1 y3_2 H
noncomputable def impl_cellFits.j8 (rec : Rec) (k : Nat) (L5 : Sl → Int → Int → Sl → Int → Int → Hp → An) (x1 : Sl) (x2 : Int) (x7 : Int) (x56 : Sl) (x57 : Int) (x58 : Int) (H : Hp) : An := L5 x1 x2 x7 x56 x57 (IntKind.i64.wrap (x58 + 1)) H
noncomputable def impl_cellFits.j7 (rec : Rec) (k : Nat) (L5 : Sl → Int → Int → Sl → Int → Int → Hp → An) (x1 : Sl) (x2 : Int) (x7 : Int) (x56 : Sl) (x57 : Int) (x58 : Int) (x72 : Bool) (H : Hp) : An := bif x72 then some (.bool false, H) else impl_cellFits.j8 rec k L5 x1 x2 x7 x56 x57 x58 H
noncomputable def impl_cellFits.l5 (rec : Rec) (k : Nat) : Nat → Sl → Int → Int → Sl → Int → Int → Hp → An
  | 0, _, _, _, _, _, _, _ => none
  | n + 1, x1, x2, x7, x56, x57, x58, H => bif decide (x58 < x57) then bif decide (0 ≤ (x58 : Int)) && decide ((x58 : Int) < x56.len) then (ldI .i64 H x56.blk (x56.off + (x58 : Int).toNat * 3)).bind fun n4 => (ldS 1 H x56.blk (x56.off + (x58 : Int).toNat * 3 + 1)).bind fun s5 => (ldI .i64 H x56.blk (x56.off + (x58 : Int).toNat * 3 + 1 + 1)).bind fun n6 => (rec slices_Contains_int.id [.sl 1 s5, .int .i64 x2] H).bind fun r7 => r7.1.toB.bind fun b8 => bif b8 then (rec impl_canHold.id [.agg [.int .i64 n4, .sl 1 s5, .int .i64 n6], .sl 1 x1, .int .i64 x7] r7.2).bind fun r9 => r9.1.toB.bind fun b10 => impl_cellFits.j7 rec k (impl_cellFits.l5 rec k n) x1 x2 x7 x56 x57 x58 (!b10) r9.2 else impl_cellFits.j7 rec k (impl_cellFits.l5 rec k n) x1 x2 x7 x56 x57 x58 false r7.2 else none else some (.bool true, H)
noncomputable def impl_cellFits.j2 (rec : Rec) (k : Nat) (x1 : Sl) (x2 : Int) (x7 : Int) (y3_0 : Int) (y3_1 : Sl) (y3_2 : Sl) (H : Hp) : An := impl_cellFits.l5 rec k k x1 x2 x7 y3_2 (y3_2.len : Int) 0 H
noncomputable def impl_cellFits.l0 (rec : Rec) (k : Nat) : Nat → Sl → Int → Int → Int → Int → Int → Sl → Sl → Hp → An
  | 0, _, _, _, _, _, _, _, _, _ => none
  | n + 1, x1, x2, x7, x15, x16, y3_0, y3_1, y3_2, H => bif decide (x16 < x15) then if (x7 : Int) = 0 then none else if (x7 : Int) = 0 then none else impl_cellFits.l1 rec k (impl_cellFits.l0 rec k n) k x1 x2 x7 x15 x16 (Sl.mk false H.length 0 2) ((Sl.mk false H.length 0 2).len : Int) 0 y3_0 y3_1 y3_2 (H ++ [some (Blk.mk false [.int .i64 (IntKind.i64.wrap ((IntKind.i64.wrap ((IntKind.i64.wrap ((x2 : Int).tdiv x7)) * x7)) + x16)), .int .i64 (IntKind.i64.wrap ((IntKind.i64.wrap (x16 * x7)) + ((x2 : Int).tmod x7)))])]) else impl_cellFits.j2 rec k x1 x2 x7 y3_0 y3_1 y3_2 H
noncomputable def impl_cellFits.f (rec : Rec) (k : Nat) (a0_0 : Int) (a0_1 : Sl) (a0_2 : Sl) (a1 : Sl) (a2 : Int) (H : Hp) : An := impl_cellFits.l0 rec k k a1 a2 a0_0 a0_0 0 a0_0 a0_1 a0_2 H
theorem impl_cellFits.j4_eq (rec : Rec) (k : Nat) (n0 : Nat) (L0 : Sl → Int → Int → Int → Int → Int → Sl → Sl → Hp → An) (hL0 : ∀ x1 x2 x7 x15 x16 y3_0 y3_1 y3_2 H, L0 x1 x2 x7 x15 x16 y3_0 y3_1 y3_2 H = iter ((orc impl_cellFits.id).at (lbody (sub impl_cellFits.body [1, 1, 0, 1, 0]))) (ex PP (orc impl_cellFits.id) rec k (lbody (sub impl_cellFits.body [1, 1, 0, 1, 0]))) (kAt PP (orc impl_cellFits.id) rec k impl_cellFits.body [1, 1, 0, 1, 0] [] (K0 PP Go.Proofs.Try.f84)) n0 (St.of 74 [(1, .sl 1 x1), (2, .int .i64 x2), (3, .lp 3 0), (7, .int .i64 x7), (15, .int .i64 x15), (16, .int .i64 x16)] [(3, [.int .i64 y3_0, .sl 1 y3_1, .sl 3 y3_2])]) H) : ∀ x1 x2 x7 x15 x16 y3_0 y3_1 y3_2 H, impl_cellFits.j4 rec k L0 x1 x2 x7 x15 x16 y3_0 y3_1 y3_2 H = ex PP (orc impl_cellFits.id) rec k (sub impl_cellFits.body [1, 1, 0, 1, 0, 0, 1, 1, 1]) (St.of 74 [(1, .sl 1 x1), (2, .int .i64 x2), (3, .lp 3 0), (7, .int .i64 x7), (15, .int .i64 x15), (16, .int .i64 x16)] [(3, [.int .i64 y3_0, .sl 1 y3_1, .sl 3 y3_2])]) H (kAt PP (orc impl_cellFits.id) rec k impl_cellFits.body [1, 1, 0, 1, 0, 0, 1, 1, 1] [n0] (K0 PP Go.Proofs.Try.f84)) := by
  intros x1 x2 x7 x15 x16 y3_0 y3_1 y3_2 H
  unfold impl_cellFits.j4
  try simp only [hL0, -eq_self]
  kernel_rfl
theorem impl_cellFits.j6_eq (rec : Rec) (k : Nat) (n0 : Nat) (L0 : Sl → Int → Int → Int → Int → Int → Sl → Sl → Hp → An) (hL0 : ∀ x1 x2 x7 x15 x16 y3_0 y3_1 y3_2 H, L0 x1 x2 x7 x15 x16 y3_0 y3_1 y3_2 H = iter ((orc impl_cellFits.id).at (lbody (sub impl_cellFits.body [1, 1, 0, 1, 0]))) (ex PP (orc impl_cellFits.id) rec k (lbody (sub impl_cellFits.body [1, 1, 0, 1, 0]))) (kAt PP (orc impl_cellFits.id) rec k impl_cellFits.body [1, 1, 0, 1, 0] [] (K0 PP Go.Proofs.Try.f84)) n0 (St.of 74 [(1, .sl 1 x1), (2, .int .i64 x2), (3, .lp 3 0), (7, .int .i64 x7), (15, .int .i64 x15), (16, .int .i64 x16)] [(3, [.int .i64 y3_0, .sl 1 y3_1, .sl 3 y3_2])]) H) (n1 : Nat) (L1 : Sl → Int → Int → Int → Int → Sl → Int → Int → Int → Sl → Sl → Hp → An) (hL1 : ∀ x1 x2 x7 x15 x16 x33 x34 x35 y3_0 y3_1 y3_2 H, L1 x1 x2 x7 x15 x16 x33 x34 x35 y3_0 y3_1 y3_2 H = iter ((orc impl_cellFits.id).at (lbody (sub impl_cellFits.body [1, 1, 0, 1, 0, 0, 1, 1, 0, 0, 1, 1, 0]))) (ex PP (orc impl_cellFits.id) rec k (lbody (sub impl_cellFits.body [1, 1, 0, 1, 0, 0, 1, 1, 0, 0, 1, 1, 0]))) (kAt PP (orc impl_cellFits.id) rec k impl_cellFits.body [1, 1, 0, 1, 0, 0, 1, 1, 0, 0, 1, 1, 0] [n0] (K0 PP Go.Proofs.Try.f84)) n1 (St.of 74 [(1, .sl 1 x1), (2, .int .i64 x2), (3, .lp 3 0), (7, .int .i64 x7), (15, .int .i64 x15), (16, .int .i64 x16), (33, .sl 1 x33), (34, .int .i64 x34), (35, .int .i64 x35)] [(3, [.int .i64 y3_0, .sl 1 y3_1, .sl 3 y3_2])]) H) : ∀ x1 x2 x7 x15 x16 x33 x34 x35 y3_0 y3_1 y3_2 H, impl_cellFits.j6 rec k L0 L1 x1 x2 x7 x15 x16 x33 x34 x35 y3_0 y3_1 y3_2 H = ex PP (orc impl_cellFits.id) rec k (sub impl_cellFits.body [1, 1, 0, 1, 0, 0, 1, 1, 0, 0, 1, 1, 0, 0, 1, 1, 1]) (St.of 74 [(1, .sl 1 x1), (2, .int .i64 x2), (3, .lp 3 0), (7, .int .i64 x7), (15, .int .i64 x15), (16, .int .i64 x16), (33, .sl 1 x33), (34, .int .i64 x34), (35, .int .i64 x35)] [(3, [.int .i64 y3_0, .sl 1 y3_1, .sl 3 y3_2])]) H (kAt PP (orc impl_cellFits.id) rec k impl_cellFits.body [1, 1, 0, 1, 0, 0, 1, 1, 0, 0, 1, 1, 0, 0, 1, 1, 1] [n0, n1] (K0 PP Go.Proofs.Try.f84)) := by
  intros x1 x2 x7 x15 x16 x33 x34 x35 y3_0 y3_1 y3_2 H
  unfold impl_cellFits.j6
  try simp only [hL0, hL1, -eq_self]
  kernel_rfl
theorem impl_cellFits.j3_eq (rec : Rec) (k : Nat) (n0 : Nat) (L0 : Sl → Int → Int → Int → Int → Int → Sl → Sl → Hp → An) (hL0 : ∀ x1 x2 x7 x15 x16 y3_0 y3_1 y3_2 H, L0 x1 x2 x7 x15 x16 y3_0 y3_1 y3_2 H = iter ((orc impl_cellFits.id).at (lbody (sub impl_cellFits.body [1, 1, 0, 1, 0]))) (ex PP (orc impl_cellFits.id) rec k (lbody (sub impl_cellFits.body [1, 1, 0, 1, 0]))) (kAt PP (orc impl_cellFits.id) rec k impl_cellFits.body [1, 1, 0, 1, 0] [] (K0 PP Go.Proofs.Try.f84)) n0 (St.of 74 [(1, .sl 1 x1), (2, .int .i64 x2), (3, .lp 3 0), (7, .int .i64 x7), (15, .int .i64 x15), (16, .int .i64 x16)] [(3, [.int .i64 y3_0, .sl 1 y3_1, .sl 3 y3_2])]) H) (n1 : Nat) (L1 : Sl → Int → Int → Int → Int → Sl → Int → Int → Int → Sl → Sl → Hp → An) (hL1 : ∀ x1 x2 x7 x15 x16 x33 x34 x35 y3_0 y3_1 y3_2 H, L1 x1 x2 x7 x15 x16 x33 x34 x35 y3_0 y3_1 y3_2 H = iter ((orc impl_cellFits.id).at (lbody (sub impl_cellFits.body [1, 1, 0, 1, 0, 0, 1, 1, 0, 0, 1, 1, 0]))) (ex PP (orc impl_cellFits.id) rec k (lbody (sub impl_cellFits.body [1, 1, 0, 1, 0, 0, 1, 1, 0, 0, 1, 1, 0]))) (kAt PP (orc impl_cellFits.id) rec k impl_cellFits.body [1, 1, 0, 1, 0, 0, 1, 1, 0, 0, 1, 1, 0] [n0] (K0 PP Go.Proofs.Try.f84)) n1 (St.of 74 [(1, .sl 1 x1), (2, .int .i64 x2), (3, .lp 3 0), (7, .int .i64 x7), (15, .int .i64 x15), (16, .int .i64 x16), (33, .sl 1 x33), (34, .int .i64 x34), (35, .int .i64 x35)] [(3, [.int .i64 y3_0, .sl 1 y3_1, .sl 3 y3_2])]) H) : ∀ x1 x2 x7 x15 x16 x33 x34 x35 x52 y3_0 y3_1 y3_2 H, impl_cellFits.j3 rec k L0 L1 x1 x2 x7 x15 x16 x33 x34 x35 x52 y3_0 y3_1 y3_2 H = ex PP (orc impl_cellFits.id) rec k (sub impl_cellFits.body [1, 1, 0, 1, 0, 0, 1, 1, 0, 0, 1, 1, 0, 0, 1, 1, 0, 0, 1, 1]) (St.of 74 [(1, .sl 1 x1), (2, .int .i64 x2), (3, .lp 3 0), (7, .int .i64 x7), (15, .int .i64 x15), (16, .int .i64 x16), (33, .sl 1 x33), (34, .int .i64 x34), (35, .int .i64 x35), (52, .bool x52)] [(3, [.int .i64 y3_0, .sl 1 y3_1, .sl 3 y3_2])]) H (kAt PP (orc impl_cellFits.id) rec k impl_cellFits.body [1, 1, 0, 1, 0, 0, 1, 1, 0, 0, 1, 1, 0, 0, 1, 1, 0, 0, 1, 1] [n0, n1] (K0 PP Go.Proofs.Try.f84)) := by
  intros x1 x2 x7 x15 x16 x33 x34 x35 x52 y3_0 y3_1 y3_2 H
  unfold impl_cellFits.j3
  try simp only [hL0, hL1, impl_cellFits.j6_eq rec k n0 L0 hL0 n1 L1 hL1, -eq_self]
  kernel_rfl
theorem impl_cellFits.l1_eq (rec : Rec) (k : Nat) (n0 : Nat) (L0 : Sl → Int → Int → Int → Int → Int → Sl → Sl → Hp → An) (hL0 : ∀ x1 x2 x7 x15 x16 y3_0 y3_1 y3_2 H, L0 x1 x2 x7 x15 x16 y3_0 y3_1 y3_2 H = iter ((orc impl_cellFits.id).at (lbody (sub impl_cellFits.body [1, 1, 0, 1, 0]))) (ex PP (orc impl_cellFits.id) rec k (lbody (sub impl_cellFits.body [1, 1, 0, 1, 0]))) (kAt PP (orc impl_cellFits.id) rec k impl_cellFits.body [1, 1, 0, 1, 0] [] (K0 PP Go.Proofs.Try.f84)) n0 (St.of 74 [(1, .sl 1 x1), (2, .int .i64 x2), (3, .lp 3 0), (7, .int .i64 x7), (15, .int .i64 x15), (16, .int .i64 x16)] [(3, [.int .i64 y3_0, .sl 1 y3_1, .sl 3 y3_2])]) H) : ∀ n x1 x2 x7 x15 x16 x33 x34 x35 y3_0 y3_1 y3_2 H, impl_cellFits.l1 rec k L0 n x1 x2 x7 x15 x16 x33 x34 x35 y3_0 y3_1 y3_2 H = iter ((orc impl_cellFits.id).at (lbody (sub impl_cellFits.body [1, 1, 0, 1, 0, 0, 1, 1, 0, 0, 1, 1, 0]))) (ex PP (orc impl_cellFits.id) rec k (lbody (sub impl_cellFits.body [1, 1, 0, 1, 0, 0, 1, 1, 0, 0, 1, 1, 0]))) (kAt PP (orc impl_cellFits.id) rec k impl_cellFits.body [1, 1, 0, 1, 0, 0, 1, 1, 0, 0, 1, 1, 0] [n0] (K0 PP Go.Proofs.Try.f84)) n (St.of 74 [(1, .sl 1 x1), (2, .int .i64 x2), (3, .lp 3 0), (7, .int .i64 x7), (15, .int .i64 x15), (16, .int .i64 x16), (33, .sl 1 x33), (34, .int .i64 x34), (35, .int .i64 x35)] [(3, [.int .i64 y3_0, .sl 1 y3_1, .sl 3 y3_2])]) H := by
  intro n
  induction n with
  | zero => intros; rfl
  | succ n ih =>
    intros x1 x2 x7 x15 x16 x33 x34 x35 y3_0 y3_1 y3_2 H
    simp only [impl_cellFits.l1, hL0, impl_cellFits.j3_eq rec k n0 L0 hL0 n (impl_cellFits.l1 rec k L0 n) (fun x1 x2 x7 x15 x16 x33 x34 x35 y3_0 y3_1 y3_2 H => ih x1 x2 x7 x15 x16 x33 x34 x35 y3_0 y3_1 y3_2 H), impl_cellFits.j4_eq rec k n0 L0 hL0, ih, -eq_self]
    kernel_rfl
theorem impl_cellFits.j8_eq (rec : Rec) (k : Nat) (n5 : Nat) (L5 : Sl → Int → Int → Sl → Int → Int → Hp → An) (hL5 : ∀ x1 x2 x7 x56 x57 x58 H, L5 x1 x2 x7 x56 x57 x58 H = iter ((orc impl_cellFits.id).at (lbody (sub impl_cellFits.body [1, 1, 1, 0, 1, 0]))) (ex PP (orc impl_cellFits.id) rec k (lbody (sub impl_cellFits.body [1, 1, 1, 0, 1, 0]))) (kAt PP (orc impl_cellFits.id) rec k impl_cellFits.body [1, 1, 1, 0, 1, 0] [] (K0 PP Go.Proofs.Try.f84)) n5 (St.of 74 [(1, .sl 1 x1), (2, .int .i64 x2), (7, .int .i64 x7), (56, .sl 3 x56), (57, .int .i64 x57), (58, .int .i64 x58)] []) H) : ∀ x1 x2 x7 x56 x57 x58 H, impl_cellFits.j8 rec k L5 x1 x2 x7 x56 x57 x58 H = ex PP (orc impl_cellFits.id) rec k (sub impl_cellFits.body [1, 1, 1, 0, 1, 0, 0, 1, 1, 1]) (St.of 74 [(1, .sl 1 x1), (2, .int .i64 x2), (7, .int .i64 x7), (56, .sl 3 x56), (57, .int .i64 x57), (58, .int .i64 x58)] []) H (kAt PP (orc impl_cellFits.id) rec k impl_cellFits.body [1, 1, 1, 0, 1, 0, 0, 1, 1, 1] [n5] (K0 PP Go.Proofs.Try.f84)) := by
  intros x1 x2 x7 x56 x57 x58 H
  unfold impl_cellFits.j8
  try simp only [hL5, -eq_self]
  kernel_rfl
theorem impl_cellFits.j7_eq (rec : Rec) (k : Nat) (n5 : Nat) (L5 : Sl → Int → Int → Sl → Int → Int → Hp → An) (hL5 : ∀ x1 x2 x7 x56 x57 x58 H, L5 x1 x2 x7 x56 x57 x58 H = iter ((orc impl_cellFits.id).at (lbody (sub impl_cellFits.body [1, 1, 1, 0, 1, 0]))) (ex PP (orc impl_cellFits.id) rec k (lbody (sub impl_cellFits.body [1, 1, 1, 0, 1, 0]))) (kAt PP (orc impl_cellFits.id) rec k impl_cellFits.body [1, 1, 1, 0, 1, 0] [] (K0 PP Go.Proofs.Try.f84)) n5 (St.of 74 [(1, .sl 1 x1), (2, .int .i64 x2), (7, .int .i64 x7), (56, .sl 3 x56), (57, .int .i64 x57), (58, .int .i64 x58)] []) H) : ∀ x1 x2 x7 x56 x57 x58 x72 H, impl_cellFits.j7 rec k L5 x1 x2 x7 x56 x57 x58 x72 H = ex PP (orc impl_cellFits.id) rec k (sub impl_cellFits.body [1, 1, 1, 0, 1, 0, 0, 1, 1, 0, 0, 1, 1]) (St.of 74 [(1, .sl 1 x1), (2, .int .i64 x2), (7, .int .i64 x7), (56, .sl 3 x56), (57, .int .i64 x57), (58, .int .i64 x58), (72, .bool x72)] []) H (kAt PP (orc impl_cellFits.id) rec k impl_cellFits.body [1, 1, 1, 0, 1, 0, 0, 1, 1, 0, 0, 1, 1] [n5] (K0 PP Go.Proofs.Try.f84)) := by
  intros x1 x2 x7 x56 x57 x58 x72 H
  unfold impl_cellFits.j7
  try simp only [hL5, impl_cellFits.j8_eq rec k n5 L5 hL5, -eq_self]
  kernel_rfl
theorem impl_cellFits.l5_eq (rec : Rec) (k : Nat) : ∀ n x1 x2 x7 x56 x57 x58 H, impl_cellFits.l5 rec k n x1 x2 x7 x56 x57 x58 H = iter ((orc impl_cellFits.id).at (lbody (sub impl_cellFits.body [1, 1, 1, 0, 1, 0]))) (ex PP (orc impl_cellFits.id) rec k (lbody (sub impl_cellFits.body [1, 1, 1, 0, 1, 0]))) (kAt PP (orc impl_cellFits.id) rec k impl_cellFits.body [1, 1, 1, 0, 1, 0] [] (K0 PP Go.Proofs.Try.f84)) n (St.of 74 [(1, .sl 1 x1), (2, .int .i64 x2), (7, .int .i64 x7), (56, .sl 3 x56), (57, .int .i64 x57), (58, .int .i64 x58)] []) H := by
  intro n
  induction n with
  | zero => intros; rfl
  | succ n ih =>
    intros x1 x2 x7 x56 x57 x58 H
    simp only [impl_cellFits.l5, impl_cellFits.j7_eq rec k n (impl_cellFits.l5 rec k n) (fun x1 x2 x7 x56 x57 x58 H => ih x1 x2 x7 x56 x57 x58 H), ih, -eq_self]
    kernel_rfl
theorem impl_cellFits.j2_eq (rec : Rec) (k : Nat) : ∀ x1 x2 x7 y3_0 y3_1 y3_2 H, impl_cellFits.j2 rec k x1 x2 x7 y3_0 y3_1 y3_2 H = ex PP (orc impl_cellFits.id) rec k (sub impl_cellFits.body [1, 1, 1]) (St.of 74 [(1, .sl 1 x1), (2, .int .i64 x2), (3, .lp 3 0), (7, .int .i64 x7)] [(3, [.int .i64 y3_0, .sl 1 y3_1, .sl 3 y3_2])]) H (kAt PP (orc impl_cellFits.id) rec k impl_cellFits.body [1, 1, 1] [] (K0 PP Go.Proofs.Try.f84)) := by
  intros x1 x2 x7 y3_0 y3_1 y3_2 H
  unfold impl_cellFits.j2
  try simp only [impl_cellFits.l5_eq rec k, -eq_self]
  kernel_rfl
theorem impl_cellFits.l0_eq (rec : Rec) (k : Nat) : ∀ n x1 x2 x7 x15 x16 y3_0 y3_1 y3_2 H, impl_cellFits.l0 rec k n x1 x2 x7 x15 x16 y3_0 y3_1 y3_2 H = iter ((orc impl_cellFits.id).at (lbody (sub impl_cellFits.body [1, 1, 0, 1, 0]))) (ex PP (orc impl_cellFits.id) rec k (lbody (sub impl_cellFits.body [1, 1, 0, 1, 0]))) (kAt PP (orc impl_cellFits.id) rec k impl_cellFits.body [1, 1, 0, 1, 0] [] (K0 PP Go.Proofs.Try.f84)) n (St.of 74 [(1, .sl 1 x1), (2, .int .i64 x2), (3, .lp 3 0), (7, .int .i64 x7), (15, .int .i64 x15), (16, .int .i64 x16)] [(3, [.int .i64 y3_0, .sl 1 y3_1, .sl 3 y3_2])]) H := by
  intro n
  induction n with
  | zero => intros; rfl
  | succ n ih =>
    intros x1 x2 x7 x15 x16 y3_0 y3_1 y3_2 H
    simp only [impl_cellFits.l0, impl_cellFits.l1_eq rec k n (impl_cellFits.l0 rec k n) (fun x1 x2 x7 x15 x16 y3_0 y3_1 y3_2 H => ih x1 x2 x7 x15 x16 y3_0 y3_1 y3_2 H), impl_cellFits.j2_eq rec k, ih, -eq_self]
    kernel_rfl
theorem impl_cellFits.f_eq (rec : Rec) (k : Nat) : ∀ a0_0 a0_1 a0_2 a1 a2 H, impl_cellFits.f rec k a0_0 a0_1 a0_2 a1 a2 H = ex PP (orc impl_cellFits.id) rec k impl_cellFits.body (St.of 74 [(0, .agg [.int .i64 a0_0, .sl 1 a0_1, .sl 3 a0_2]), (1, .sl 1 a1), (2, .int .i64 a2)] []) H (K0 PP Go.Proofs.Try.f84) := by
  intros a0_0 a0_1 a0_2 a1 a2 H
  unfold impl_cellFits.f
  try simp only [impl_cellFits.l0_eq rec k, -eq_self]
  kernel_rfl
theorem impl_cellFits.call (k : Nat) : ∀ a0_0 a0_1 a0_2 a1 a2 H, callF PP orc (k + 1) impl_cellFits.id [.agg [.int .i64 a0_0, .sl 1 a0_1, .sl 3 a0_2], .sl 1 a1, .int .i64 a2] H = impl_cellFits.f (callF PP orc k) k a0_0 a0_1 a0_2 a1 a2 H := by
  intros a0_0 a0_1 a0_2 a1 a2 H
  rw [callF_at (fn := Go.Proofs.Try.f84) (c := impl_cellFits.body) Go.Proofs.Try.func84 (by kernel_rfl) (Nat.le_of_ble_eq_true (by kernel_rfl)), impl_cellFits.f_eq]
  kernel_rfl
end Go.Proofs.Ytjikkamhljbipaa.Rp
/- Copies, and whether the value of a cell fits: the program's own side. No conditions. -/
set_option linter.unusedVariables false
set_option linter.unusedSimpArgs false
namespace Go.Proofs.Ytjikkamhljbipaa.Rp
open Go Go.RowKit Go.Proofs.Ytjikkamhljbipaa.Ab

theorem Clone_own {k : Nat} (hk : 1 ≤ k) {H : Hp} {s : Sl} {l : List Int} (hs : Reads .i64 H s l) (hn : s.nil = false) (hl : l.length ≤ 1000) :
    callF PP orc k slices_Clone_int.id [.sl 1 s] H = some (.sl 1 (Sl.mk false H.length 0 l.length), H ++ [some (Blk.mk false (l.map (.int .i64)))]) := by
  obtain ⟨k, rfl⟩ : ∃ q, k = q + 1 := ⟨k - 1, by omega⟩
  rw [slices_Clone_int.call]
  simp only [slices_Clone_int.f, hn, cond_false, read_ok hs, hs.len, appl_ok _ _ _ (show l.length ≤ 1000000 by omega), Option.bind_some, cells_ok, Bool.and_self, cond_true]
theorem adv_new {H : Hp} (c : List AV) : H <+: H ++ [some (Blk.mk false c)] := List.prefix_append _ _

theorem wdivm {a u : Nat} (N : Nat) (hN : 2 ≤ N ∧ N ≤ 4) (ha : a < N * N) (hu : u < N) : IntKind.i64.wrap (IntKind.i64.wrap (IntKind.i64.wrap ((a : Int).tdiv (N : Int)) * (N : Int)) + (u : Int)) = ((a / N * N + u : Nat) : Int) ∧ IntKind.i64.wrap (IntKind.i64.wrap ((u : Int) * (N : Int)) + (a : Int).tmod (N : Int)) = ((u * N + a % N : Nat) : Int) ∧ a / N * N + u < N * N ∧ u * N + a % N < N * N := by
  have e1 : ((a : Int)).tdiv (N : Int) = ((a / N : Nat) : Int) := rfl
  have e2 : ((a : Int)).tmod (N : Int) = ((a % N : Nat) : Int) := rfl
  rw [e1, e2]
  have : N = 2 ∨ N = 3 ∨ N = 4 := by omega
  rcases this with rfl | rfl | rfl
  all_goals
    refine ⟨?_, ?_, by omega, by omega⟩
    · rw [wr (n := ((a / _ : Nat) : Int)) (by omega) (by omega), wr (n := ((a / _ : Nat) : Int) * _) (by omega) (by omega), wr (by omega) (by omega)]; omega
    · rw [wr (n := (u : Int) * _) (by omega) (by omega), wr (by omega) (by omega)]; omega

theorem cellFits_l5 {k : Nat} (hk : 2000041 ≤ k) {H0 : Hp} {n : Int} {gs s xs : Sl} {given g : List Int} {rs : List R} (hz : PuzAt H0 n gs s given rs) (hro : ∀ r ∈ rs, R.ok n r = true) (hx : Reads .i64 H0 xs g) (hg : gridOk g n = true) {at' : Nat} :
    ∀ (j i fuel : Nat) (H : Hp), i + j = rs.length → j < fuel → H0 <+: H → ∃ H', impl_cellFits.l5 (callF PP orc k) k fuel xs at' n s rs.length i H = some (.bool (((rs.drop i).map R.val).all fun r => !r.2.1.contains (at' : Int) || canHoldV n g r), H') ∧ H0 <+: H' := by
  have hlen := hz.rr.len
  have hrl := hz.rl
  intro j
  induction j with
  | zero =>
    intro i fuel H hi hf hp
    obtain ⟨fuel, rfl⟩ : ∃ q, fuel = q + 1 := ⟨fuel - 1, by omega⟩
    refine ⟨H, ?_, hp⟩
    rw [List.drop_eq_nil_of_le (by omega), List.map_nil, List.all_nil]
    simp (disch := omega) only [impl_cellFits.l5, dt, df, bt, bf, nt, nf, Bool.and_self, Bool.not_true, Bool.not_false, cond_true, cond_false, Int.toNat_natCast, Int.toNat_zero, Int.toNat_one, Option.bind_some, wr, AV.toB, AV.toI, AV.toS, if_true]
  | succ j ih =>
    intro i fuel H hi hf hp
    obtain ⟨fuel, rfl⟩ : ∃ q, fuel = q + 1 := ⟨fuel - 1, by omega⟩
    have hi2 : i < rs.length := by omega
    obtain ⟨l0, l1, l2⟩ := rules_at1 (pf_readsR hp hz.rr) i hi2
    have hmem := List.getElem_mem hi2
    have hcs := pf_reads hp (hz.rr.cs i hi2)
    have hct := Contains_ok (show 2000001 ≤ k by omega) (at' : Int) hcs (by have := hz.rc _ hmem; omega)
    rw [List.drop_eq_getElem_cons hi2, List.map_cons, List.all_cons]
    have e2 : rs[i].val.2.1 = rs[i].cells := rfl
    rw [e2]
    cases c1 : rs[i].cells.contains (at' : Int) with
    | false =>
      rw [c1] at hct
      obtain ⟨H', b1, b2⟩ := ih (i + 1) fuel H (by omega) (by omega) hp
      push_cast at b1
      refine ⟨H', ?_, b2⟩
      simp (disch := omega) only [impl_cellFits.l5, impl_cellFits.j7, impl_cellFits.j8, dt, df, bt, bf, nt, nf, Bool.and_self, Bool.not_true, Bool.not_false, cond_true, cond_false, Int.toNat_natCast, Int.toNat_zero, Int.toNat_one, Option.bind_some, wr, AV.toB, AV.toI, AV.toS, if_true, l0, l1, l2, hct, b1, Bool.true_or, Bool.true_and]
    | true =>
      rw [c1] at hct
      obtain ⟨H1, a1, a2⟩ := canHold_ok hk hcs (pf_reads hp hx) (hro _ hmem) hg
      have e : canHoldV n g (rs[i].kind, rs[i].cells, rs[i].value) = canHoldV n g rs[i].val := rfl
      rw [e] at a1
      cases c : canHoldV n g rs[i].val with
      | true =>
        rw [c] at a1
        obtain ⟨H', b1, b2⟩ := ih (i + 1) fuel H1 (by omega) (by omega) (hp.trans a2)
        push_cast at b1
        refine ⟨H', ?_, b2⟩
        simp (disch := omega) only [impl_cellFits.l5, impl_cellFits.j7, impl_cellFits.j8, dt, df, bt, bf, nt, nf, Bool.and_self, Bool.not_true, Bool.not_false, cond_true, cond_false, Int.toNat_natCast, Int.toNat_zero, Int.toNat_one, Option.bind_some, wr, AV.toB, AV.toI, AV.toS, if_true, l0, l1, l2, hct, a1, b1, Bool.or_true, Bool.true_and]
      | false =>
        rw [c] at a1
        refine ⟨H1, ?_, hp.trans a2⟩
        simp (disch := omega) only [impl_cellFits.l5, impl_cellFits.j7, impl_cellFits.j8, dt, df, bt, bf, nt, nf, Bool.and_self, Bool.not_true, Bool.not_false, cond_true, cond_false, Int.toNat_natCast, Int.toNat_zero, Int.toNat_one, Option.bind_some, wr, AV.toB, AV.toI, AV.toS, if_true, l0, l1, l2, hct, a1, Bool.or_false, Bool.false_and]
theorem cellFits_l1 (rec : Rec) (k : Nat) (L0 : Sl → Int → Int → Int → Int → Int → Sl → Sl → Hp → An) {n y0 x15 : Int} {gs s xs cs : Sl} {H : Hp} {g cells : List Int} {at' q : Nat} (hc : Reads .i64 H cs cells) (hx : Reads .i64 H xs g) (ha : at' < g.length) (hq : q < 1000) (hcl : cells.length ≤ 10) (hin : ∀ c ∈ cells, 0 ≤ c ∧ c.toNat < g.length ∧ c < (g.length : Int)) :
    ∀ (j i fuel : Nat), i + j = cells.length → j < fuel → impl_cellFits.l1 rec k L0 fuel xs at' n x15 q cs cells.length i y0 gs s H =
      bif (cells.drop i).any (fun c => decide (c ≠ (at' : Int)) && decide (g.getD c.toNat 0 = g.getD at' 0)) then some (.bool false, H) else L0 xs at' n x15 ((q : Int) + 1) y0 gs s H := by
  have hcs := hc.len
  have hxl := hx.len
  have eqd : ∀ a b : Int, (a == b) = decide (a = b) := fun a b => by rw [Bool.eq_iff_iff]; simp
  intro j
  induction j with
  | zero =>
    intro i fuel hi hf
    obtain ⟨fuel, rfl⟩ : ∃ q, fuel = q + 1 := ⟨fuel - 1, by omega⟩
    rw [List.drop_eq_nil_of_le (by omega)]
    simp (disch := omega) only [impl_cellFits.l1, impl_cellFits.j4, df, cond_false, wr, List.any_nil]
  | succ j ih =>
    intro i fuel hi hf
    obtain ⟨fuel, rfl⟩ : ∃ q, fuel = q + 1 := ⟨fuel - 1, by omega⟩
    have hi2 : i < cells.length := by omega
    obtain ⟨c0, c1, c2⟩ := hin _ (mem_getD hi2)
    have hd : cells.drop i = cells.getD i 0 :: cells.drop (i + 1) := by
      rw [List.drop_eq_getElem_cons hi2, List.getD_eq_getElem?_getD, List.getElem?_eq_getElem hi2]; rfl
    have h5 := ih (i + 1) fuel (by omega) (by omega)
    push_cast at h5
    rw [hd, List.any_cons]
    by_cases cA : cells.getD i 0 = (at' : Int)
    · rw [df (show ¬ cells.getD i 0 ≠ (at' : Int) from fun h => h cA), Bool.false_and, Bool.false_or]
      simp (disch := omega) only [impl_cellFits.l1, impl_cellFits.j3, impl_cellFits.j6, dt, nf, Bool.and_self, cond_true, cond_false, Int.toNat_natCast, Option.bind_some, wr, rdn hc, h5]
    · rw [dt cA, Bool.true_and]
      by_cases eA : g.getD (cells.getD i 0).toNat 0 = g.getD at' 0
      · rw [dt eA]
        simp (disch := omega) only [impl_cellFits.l1, impl_cellFits.j3, impl_cellFits.j6, dt, nt, bt, Bool.and_self, cond_true, cond_false, Int.toNat_natCast, Option.bind_some, wr, rdn hc, rdn hx, Bool.true_or]
      · rw [df eA]
        simp (disch := omega) only [impl_cellFits.l1, impl_cellFits.j3, impl_cellFits.j6, dt, nt, bf, Bool.and_self, cond_true, cond_false, Int.toNat_natCast, Option.bind_some, wr, rdn hc, rdn hx, Bool.false_or, h5]
theorem cellFits_l0 {k : Nat} (hk : 2000041 ≤ k) {H0 : Hp} {gs s xs : Sl} {given g : List Int} {rs : List R} {N : Nat} (hz : PuzAt H0 (N : Int) gs s given rs) (hro : ∀ r ∈ rs, R.ok (N : Int) r = true) (hx : Reads .i64 H0 xs g) (hg : gridOk g (N : Int) = true) {at' : Nat} (ha : at' < g.length) :
    ∀ (j q fuel : Nat) (H : Hp), q + j = N → j < fuel → H0 <+: H → ∃ H', impl_cellFits.l0 (callF PP orc k) k fuel xs at' N N q N gs s H = some (.bool (!cellFrom N g at' q j && (rs.map R.val).all fun r => !r.2.1.contains (at' : Int) || canHoldV N g r), H') ∧ H0 <+: H' := by
  have hn := hz.n4
  have hN : 2 ≤ N ∧ N ≤ 4 := by omega
  have hgl := ((gridOk_iff g _).1 hg).2.1
  have hgl' : g.length = N * N := by
    have : N = 2 ∨ N = 3 ∨ N = 4 := by omega
    rcases this with rfl | rfl | rfl <;> omega
  have hxl := hx.len
  have hsl := hz.rr.len
  have hrl := hz.rl
  intro j
  induction j with
  | zero =>
    intro q fuel H hq hf hp
    obtain ⟨fuel, rfl⟩ : ∃ q, fuel = q + 1 := ⟨fuel - 1, by omega⟩
    obtain ⟨H', b1, b2⟩ := cellFits_l5 hk hz hro hx hg (at' := at') rs.length 0 k H (by omega) (by omega) hp
    simp only [Int.natCast_zero, List.drop_zero] at b1
    refine ⟨H', ?_, b2⟩
    simp (disch := omega) only [impl_cellFits.l0, impl_cellFits.j2, dt, df, bt, bf, nt, nf, Bool.and_self, Bool.not_true, Bool.not_false, cond_true, cond_false, Int.toNat_natCast, Int.toNat_zero, Int.toNat_one, Option.bind_some, wr, AV.toB, AV.toI, AV.toS, if_true, hsl, b1, cellFrom, Bool.true_and]
  | succ j ih =>
    intro q fuel H hq hf hp
    obtain ⟨fuel, rfl⟩ : ∃ q, fuel = q + 1 := ⟨fuel - 1, by omega⟩
    obtain ⟨w1, w2, w3, w4⟩ := wdivm N hN (a := at') (u := q) (by omega) (by omega)
    have q1 : H <+: H ++ [some (Blk.mk false (([((at' / N * N + q : Nat) : Int), ((q * N + at' % N : Nat) : Int)] : List Int).map (.int .i64)))] := List.prefix_append _ _
    have hnew := own_reads (own_new 1 H (([((at' / N * N + q : Nat) : Int), ((q * N + at' % N : Nat) : Int)] : List Int).map (.int .i64)) 2 rfl)
    have hx1 := pf_reads (hp.trans q1) hx
    obtain ⟨H', b1, b2⟩ := ih (q + 1) fuel _ (by omega) (by omega) (hp.trans q1)
    rw [show ((q + 1 : Nat) : Int) = (q : Int) + 1 from rfl] at b1
    rw [cellFrom]
    generalize hA : at' / N * N + q = A at *
    generalize hB : q * N + at' % N = B at *
    have h1 := cellFits_l1 (callF PP orc k) k (impl_cellFits.l0 (callF PP orc k) k fuel) (n := (N : Int)) (y0 := (N : Int)) (x15 := (N : Int)) (gs := gs) (s := s) (at' := at') (q := q) hnew hx1 ha (by omega) (by simp) (fun c hc => by
      simp at hc
      rcases hc with rfl | rfl
      · exact ⟨by omega, by rw [Int.toNat_natCast]; omega, by omega⟩
      · exact ⟨by omega, by rw [Int.toNat_natCast]; omega, by omega⟩) 2 0 k (by simp) (by omega)
    have e : (([(A : Int), (B : Int)] : List Int).drop 0).any (fun c => decide (c ≠ (at' : Int)) && decide (g.getD c.toNat 0 = g.getD at' 0)) = ((decide (A ≠ at') && decide (g.getD A 0 = g.getD at' 0)) || (decide (B ≠ at') && decide (g.getD B 0 = g.getD at' 0))) := by
      have eA : decide ((A : Int) ≠ (at' : Int)) = decide (A ≠ at') := decide_eq_decide.2 (by omega)
      have eB : decide ((B : Int) ≠ (at' : Int)) = decide (B ≠ at') := decide_eq_decide.2 (by omega)
      simp only [List.drop_zero, List.any_cons, List.any_nil, Int.toNat_natCast, Bool.or_false, eA, eB]
    rw [e] at h1
    simp only [List.map_cons, List.map_nil, List.length_cons, List.length_nil, Int.natCast_zero] at h1 b1
    have z1 : ((N : Int) = 0) = False := by simp; omega
    cases hc : (decide (A ≠ at') && decide (g.getD A 0 = g.getD at' 0)) || (decide (B ≠ at') && decide (g.getD B 0 = g.getD at' 0)) with
    | true =>
      rw [hc] at h1
      refine ⟨_, ?_, hp.trans q1⟩
      rw [← Bool.or_assoc, hc]
      simp only [impl_cellFits.l0, dt (show (q : Int) < (N : Int) by omega), cond_true, z1, if_false, w1, w2, hA, hB, h1, List.map_cons, List.map_nil, Bool.true_or, Bool.not_true, Bool.false_and]
    | false =>
      rw [hc] at h1
      refine ⟨H', ?_, b2⟩
      rw [← Bool.or_assoc, hc]
      simp only [impl_cellFits.l0, dt (show (q : Int) < (N : Int) by omega), cond_true, cond_false, z1, if_false, w1, w2, hA, hB, h1, Bool.false_or, b1]
theorem cellFits_ok {k : Nat} (hk : 2000042 ≤ k) {H : Hp} {n : Int} {gs s xs : Sl} {given g : List Int} {rs : List R} (hz : PuzAt H n gs s given rs) (hro : ∀ r ∈ rs, R.ok n r = true) (hx : Reads .i64 H xs g) (hg : gridOk g n = true) {at' : Nat} (ha : at' < g.length) :
    ∃ H', callF PP orc k impl_cellFits.id [.agg [.int .i64 n, .sl 1 gs, .sl 3 s], .sl 1 xs, .int .i64 (at' : Int)] H = some (.bool (cellFitsV n (rs.map R.val) g at'), H') ∧ H <+: H' := by
  obtain ⟨k, rfl⟩ : ∃ q, k = q + 1 := ⟨k - 1, by omega⟩
  rw [impl_cellFits.call]
  have hn := hz.n4
  obtain ⟨N, rfl⟩ := Int.eq_ofNat_of_zero_le (show 0 ≤ n by omega)
  obtain ⟨H', a1, a2⟩ := cellFits_l0 (show 2000041 ≤ k by omega) hz hro hx hg ha N 0 k H (by omega) (by omega) (List.prefix_refl _)
  exact ⟨H', a1, a2⟩
end Go.Proofs.Ytjikkamhljbipaa.Rp
/- The search for a solved square with a number: it finds one if there are so many. No conditions. -/
set_option linter.unusedVariables false
set_option linter.unusedSimpArgs false
namespace Go.Proofs.Ytjikkamhljbipaa.Rp
open Go Go.RowKit Go.Proofs.Ytjikkamhljbipaa.Ab

def cntV (f : Int → Nat) : Nat → Int → Nat
  | 0, _ => 0
  | j + 1, v => f v + cntV f j (v + 1)
/-- How many solved squares a grid has whose last rem cells are open. -/
def cnt (n : Int) : Nat → List Int → Nat
  | 0, _ => 1
  | rem + 1, g => cntV (fun v => if clash (g.set ((n * n).toNat - (rem + 1)) v) n = true then 0 else cnt n rem (g.set ((n * n).toNat - (rem + 1)) v)) n.toNat 1

/-- A cell of a number. -/
def NumAt (b : Nat) (H : Hp) (x : Int) : Prop := H[b]? = some (some ⟨false, [.int .i64 x]⟩)

theorem grid_set {g : List Int} {n : Int} (h : gridOk g n = true) (i : Nat) (v : Int) (hv : 0 ≤ v ∧ v ≤ n) : gridOk (g.set i v) n = true := by
  obtain ⟨h1, h2, h3⟩ := (gridOk_iff g n).1 h
  refine (gridOk_iff _ n).2 ⟨h1, by simpa using h2, fun x hx => ?_⟩
  rcases List.mem_or_eq_of_mem_set hx with hx | hx
  · exact h3 x hx
  · rw [hx]; exact hv

/-- What the search finds. -/
def Found (n : Int) (b : Nat) (H0 H' : Hp) (a : AV) : Prop := ∃ t g', a = .sl 1 t ∧ Reads .i64 H' t g' ∧ g'.length = (n * n).toNat ∧ (∀ v ∈ g', 1 ≤ v ∧ v ≤ n) ∧ t.blk ≠ b

theorem l2Search_ok {n : Int} (hn : 2 ≤ n ∧ n ≤ 4) {b : Nat} : ∀ (rem : Nat) {k : Nat}, 2000002 + rem ≤ k → ∀ {H : Hp} {s : Sl} {g : List Int} {left : Nat}, rem ≤ (n * n).toNat → Reads .i64 H s g → s.blk ≠ b → gridOk g n = true → (∀ i, i + rem < (n * n).toNat → ∀ v, g[i]? = some v → 1 ≤ v) → NumAt b H left → left < 1000000 → 
    ∃ a H', callF PP orc k spec_l2Search.id [.sl 1 s, .int .i64 n, .int .i64 (((n * n).toNat - rem : Nat) : Int), .ptr b 0] H = some (a, H') ∧ Adv b H H' ∧ (left < cnt n rem g → Found n b H H' a) ∧ (cnt n rem g ≤ left → (∃ t, a = .sl 1 t ∧ t.len = 0) ∧ NumAt b H' ((left - cnt n rem g : Nat) : Int)) := by
  have hnn : 0 ≤ n * n ∧ n * n ≤ 16 := by
    have : n = 2 ∨ n = 3 ∨ n = 4 := by omega
    rcases this with rfl | rfl | rfl <;> decide
  intro rem
  induction rem with
  | zero =>
    intro k hk H s g left hrem hs hsb hg hgv hnum hleft
    obtain ⟨k, rfl⟩ : ∃ m, k = m + 1 := ⟨k - 1, by omega⟩
    rw [spec_l2Search.call]
    obtain ⟨_, h2, h3⟩ := (gridOk_iff g n).1 hg
    have hsl := hs.len
    have e1 : ((((n * n).toNat - 0 : Nat) : Int) == (s.len : Int)) = true := by simp; omega
    have hl : ldI .i64 H b 0 = some (left : Int) := by unfold ldI Hp.cell; rw [hnum]; simp [AV.toI]
    have hb := (List.getElem?_eq_some_iff.1 hnum).1
    by_cases c : left = 0
    · subst c
      refine ⟨.sl 1 s, H, ?_, Adv.refl b H, fun _ => ⟨s, g, rfl, hs, by omega, fun v hv => ?_, hsb⟩, fun h => by simp [cnt] at h⟩
      · have e2 : (((0 : Nat) : Int) == 0) = true := rfl
        simp only [spec_l2Search.f, e1, cond_true, hl, Option.bind_some, e2]
      · obtain ⟨i, hi, rfl⟩ := List.getElem_of_mem hv
        exact ⟨hgv i (by omega) _ (List.getElem?_eq_getElem hi), (h3 _ hv).2⟩
    · have w : IntKind.i64.wrap ((left : Int) - 1) = ((left - 1 : Nat) : Int) := by rw [wr (by omega) (by omega)]; omega
      obtain ⟨H', a1, a2, a3, a4⟩ := sto1' hnum (.int .i64 ((left - 1 : Nat) : Int))
      refine ⟨.sl 1 Sl.none, H', ?_, ⟨a3, by omega⟩, fun h => by simp [cnt] at h; omega, fun _ => ⟨⟨_, rfl, rfl⟩, by simpa [cnt, NumAt] using a2⟩⟩
      have e2 : ((left : Int) == 0) = false := by simp; omega
      simp only [spec_l2Search.f, e1, cond_true, cond_false, hl, Option.bind_some, e2, w, a1]
  | succ rem ih =>
    intro k hk H s g left hrem hs hsb hg hgv hnum hleft
    obtain ⟨k, rfl⟩ : ∃ m, k = m + 1 := ⟨k - 1, by omega⟩
    rw [spec_l2Search.call]
    obtain ⟨_, h2, h3⟩ := (gridOk_iff g n).1 hg
    have hsl := hs.len
    have e1 : ((((n * n).toNat - (rem + 1) : Nat) : Int) == (s.len : Int)) = false := by simp; omega
    generalize hat : (n * n).toNat - (rem + 1) = at' at *
    have hw : IntKind.i64.wrap ((at' : Int) + 1) = (((n * n).toNat - rem : Nat) : Int) := by rw [wr (by omega) (by omega)]; omega
    -- the loop
    have loop : ∀ (j fuel : Nat) (v : Int) (H1 : Hp) (left : Nat), v + j = n + 1 → 1 ≤ v → j < fuel → Adv b H H1 → NumAt b H1 left → left < 1000000 →
        ∃ a H', spec_l2Search.l0 (callF PP orc k) k fuel s n at' b 0 v H1 = some (a, H') ∧ Adv b H H' ∧ (left < cntV (fun v => if clash (g.set at' v) n = true then 0 else cnt n rem (g.set at' v)) j v → Found n b H H' a) ∧ (cntV (fun v => if clash (g.set at' v) n = true then 0 else cnt n rem (g.set at' v)) j v ≤ left → (∃ t, a = .sl 1 t ∧ t.len = 0) ∧ NumAt b H' ((left - cntV (fun v => if clash (g.set at' v) n = true then 0 else cnt n rem (g.set at' v)) j v : Nat) : Int)) := by
      intro j
      induction j with
      | zero =>
        intro fuel v H1 left hv hv1 hf hadv hnum hleft
        obtain ⟨fuel, rfl⟩ : ∃ q, fuel = q + 1 := ⟨fuel - 1, by omega⟩
        have : ¬ (v ≤ n) := by omega
        refine ⟨.sl 1 Sl.none, H1, ?_, hadv, fun h => by simp [cntV] at h, fun _ => ⟨⟨_, rfl, rfl⟩, by simpa [cntV] using hnum⟩⟩
        simp only [spec_l2Search.l0, this, decide_false, cond_false]
      | succ j ihj =>
        intro fuel v H1 left hv hv1 hf hadv hnum hleft
        obtain ⟨fuel, rfl⟩ : ∃ q, fuel = q + 1 := ⟨fuel - 1, by omega⟩
        have hvn : v ≤ n := by omega
        have hs1 := hadv.reads hsb hs
        have c1 := read_ok hs1
        have c2 := appl_ok H1 g .i64 (by omega)
        have hnew := own_new 1 H1 (g.map (.int .i64)) g.length (by simp)
        obtain ⟨H6, d1, d2, d3, d4, d5⟩ := own_set hnew (List.prefix_append _ _) at' (by omega) v
        have hb1 : b < H1.length := (List.getElem?_eq_some_iff.1 hnum).1
        have hg6 := grid_set hg at' v ⟨by omega, hvn⟩
        obtain ⟨H7, f1, f2⟩ := specl2Clash_ok (show 2000001 ≤ k by omega) (own_reads d3) hg6
        have adv6 : Adv b H1 H6 := pf_adv d2
        have num7 : NumAt b H7 left := pf_get (d2.trans f2) hnum
        have adv7 : Adv b H H7 := hadv.trans (pf_adv (d2.trans f2))
        have q0 : (0 : Int) ≤ (at' : Int) := by omega
        have q1 : (at' : Int) < ((Sl.mk false H1.length 0 g.length).len : Int) := by show (at' : Int) < (g.length : Int); omega
        have w1 : IntKind.i64.wrap (v + 1) = v + 1 := wr (by omega) (by omega)
        have gl : s.len = g.length := hsl
        simp only [Sl.mk.injEq] at d1
        have d1' : (H1 ++ [some (Blk.mk false (g.map (.int .i64)))]).sto H1.length (0 + at') [.int .i64 v] = some H6 := d1
        cases hc : clash (g.set at' v) n with
        | true =>
          obtain ⟨a, H', i1, i2, i3, i4⟩ := ihj fuel (v + 1) H7 left (by omega) (by omega) (by omega) adv7 num7 hleft
          refine ⟨a, H', ?_, i2, ?_, ?_⟩
          · simp only [spec_l2Search.l0, spec_l2Search.j1, hvn, decide_true, cond_true, c1, gl, c2, Option.bind_some, cells_ok, Bool.and_self, q0, q1, Int.toNat_natCast, Nat.mul_one, d1', f1, AV.toB, hc, w1, i1]
          · simpa [cntV, hc] using i3
          · simpa [cntV, hc] using i4
        | false =>
          have hs6 := pf_reads f2 (own_reads d3)
          obtain ⟨a, H8, r1, r2, r3, r4⟩ := ih (k := k) (by omega) (H := H7) (s := Sl.mk false H1.length 0 g.length) (g := g.set at' v) (left := left) (by omega) hs6 (by simp only; omega) hg6 (fun i hi x hx => by
            by_cases e : i = at'
            · subst e
              rw [List.getElem?_set_self (by omega)] at hx
              simp at hx; omega
            · rw [List.getElem?_set_ne (Ne.symm e)] at hx
              exact hgv i (by omega) x hx) num7 hleft
          by_cases hlt : left < cnt n rem (g.set at' v)
          · obtain ⟨t, g', rfl, t1, t2, t3, t4⟩ := r3 hlt
            have hpos : (t.len : Int) > 0 := by rw [t1.len]; omega
            refine ⟨.sl 1 t, H8, ?_, adv7.trans r2, fun _ => ⟨t, g', rfl, t1, t2, t3, t4⟩, fun h => by simp only [cntV, hc] at h; simp at h; omega⟩
            simp only [spec_l2Search.l0, spec_l2Search.j1, hvn, decide_true, cond_true, c1, gl, c2, Option.bind_some, cells_ok, Bool.and_self, q0, q1, Int.toNat_natCast, Nat.mul_one, d1', f1, AV.toB, hc, cond_false, hw, r1, AV.toS, if_true, hpos]
          · obtain ⟨⟨t, rfl, t1⟩, t2⟩ := r4 (by omega)
            have hneg : ¬ ((t.len : Int) > 0) := by omega
            obtain ⟨a, H', i1, i2, i3, i4⟩ := ihj fuel (v + 1) H8 _ (by omega) (by omega) (by omega) (adv7.trans r2) t2 (by omega)
            refine ⟨a, H', ?_, i2, ?_, ?_⟩
            · simp only [spec_l2Search.l0, spec_l2Search.j1, hvn, decide_true, cond_true, c1, gl, c2, Option.bind_some, cells_ok, Bool.and_self, q0, q1, Int.toNat_natCast, Nat.mul_one, d1', f1, AV.toB, hc, cond_false, hw, r1, AV.toS, if_true, hneg, decide_false, w1, i1]
            · intro h
              simp only [cntV, hc] at h
              simp at h
              exact i3 (by omega)
            · intro h
              simp only [cntV, hc] at h ⊢
              simp at h ⊢
              have := i4 (by omega)
              rw [Nat.sub_sub] at this
              exact this
    obtain ⟨a, H', i1, i2, i3, i4⟩ := loop n.toNat k 1 H left (by omega) (by omega) (by omega) (Adv.refl b H) hnum hleft
    refine ⟨a, H', ?_, i2, ?_, ?_⟩
    · simp only [spec_l2Search.f, e1, cond_false]; exact i1
    · simpa [cnt, hat] using i3
    · simpa [cnt, hat] using i4
end Go.Proofs.Ytjikkamhljbipaa.Rp
/- Lists of rules over a whole block; appending a rule. No conditions. -/
set_option linter.unusedVariables false
set_option linter.unusedSimpArgs false
namespace Go.Proofs.Ytjikkamhljbipaa.Rp
open Go Go.RowKit Go.Proofs.Ytjikkamhljbipaa.Ab

/-- A list of rules over a whole block: as read. -/
structure WR (H0 H : Hp) (s : Sl) (rs : List R) : Prop where
  own : Own 3 H0 H s (rs.flatMap R.av)
  rd : ∀ i, (h : i < rs.length) → Reads .i64 H rs[i].sl rs[i].cells
  ne : ∀ i, (h : i < rs.length) → rs[i].sl.blk ≠ s.blk
  lt : ∀ i, (h : i < rs.length) → rs[i].sl.blk < H.length
  lo : ∀ i, (h : i < rs.length) → H0.length ≤ rs[i].sl.blk
  nn : ∀ i, (h : i < rs.length) → rs[i].sl.nil = false
/-- And with cells of its own. -/
structure WO (H0 H : Hp) (s : Sl) (rs : List R) : Prop where
  own : Own 3 H0 H s (rs.flatMap R.av)
  oc : ∀ i, (h : i < rs.length) → Own 1 H0 H rs[i].sl (rs[i].cells.map (.int .i64))
  ne : ∀ i, (h : i < rs.length) → rs[i].sl.blk ≠ s.blk
  inj : ∀ i j, (hi : i < rs.length) → (hj : j < rs.length) → i ≠ j → rs[i].sl.blk ≠ rs[j].sl.blk

theorem own_lt {sz : Nat} {H0 H : Hp} {s : Sl} {c : List AV} (h : Own sz H0 H s c) : s.blk < H.length := (List.getElem?_eq_some_iff.1 h.get).1
theorem cell_lt {H : Hp} {b o : Nat} {v : AV} (h : H.cell b o = some v) : b < H.length := by
  unfold Hp.cell at h
  split at h
  · rename_i x hx; exact (List.getElem?_eq_some_iff.1 hx).1
  · simp at h
theorem own_readsR {H0 H : Hp} {s : Sl} {rs : List R} (h : Own 3 H0 H s (rs.flatMap R.av)) (hr : ∀ i, (h : i < rs.length) → Reads .i64 H rs[i].sl rs[i].cells) : ReadsR H s rs :=
  ⟨by have := h.len; rw [flat_length] at this; omega, fun i hi => by rw [own_cell h, (flat0 rs i hi).1], fun i hi => by rw [Nat.add_assoc, own_cell h, (flat0 rs i hi).2.1], fun i hi => by rw [Nat.add_assoc, own_cell h, (flat0 rs i hi).2.2], hr⟩
theorem WR.reads {H0 H : Hp} {s : Sl} {rs : List R} (h : WR H0 H s rs) : ReadsR H s rs := own_readsR h.own h.rd
theorem WR.pf {H0 H H' : Hp} {s : Sl} {rs : List R} (h : WR H0 H s rs) (g : H <+: H') : WR H0 H' s rs :=
  ⟨own_pf h.own g, fun i hi => pf_reads g (h.rd i hi), h.ne, fun i hi => Nat.lt_of_lt_of_le (h.lt i hi) g.length_le, h.lo, h.nn⟩
theorem WO.pf {H0 H H' : Hp} {s : Sl} {rs : List R} (h : WO H0 H s rs) (g : H <+: H') : WO H0 H' s rs :=
  ⟨own_pf h.own g, fun i hi => own_pf (h.oc i hi) g, h.ne, h.inj⟩
theorem own_len3 {H0 H : Hp} {s : Sl} {rs : List R} (h : Own 3 H0 H s (rs.flatMap R.av)) : s.len = rs.length := by
  have := h.len; rw [flat_length] at this; omega

theorem wr_app {H0 H : Hp} {s : Sl} {rs : List R} (h : WR H0 H s rs) (g : H0 <+: H) (hl : rs.length ≤ 1000000) (r : R) (hr : Reads .i64 H r.sl r.cells) (hn : r.sl.blk ≠ s.blk) (hlt : r.sl.blk < H.length) (hlo : H0.length ≤ r.sl.blk) (hnn : r.sl.nil = false) :
    ∃ t' H', H.app 3 s 1 r.av = some (t', H') ∧ H0 <+: H' ∧ WR H0 H' t' (rs ++ [r]) ∧ But s.blk H H' ∧ t'.blk = H.length ∧ H'.length = H.length + 1 := by
  have hlen := own_len3 h.own
  obtain ⟨H', a1, a2, a3, a4, a5⟩ := own_app h.own g 1 r.av (by omega) (by omega) (by omega) (by omega) rfl
  refine ⟨_, H', a1, a2, ⟨by simpa using a3, fun i hi => ?_, fun i hi => ?_, fun i hi => ?_, fun i hi => ?_, fun i hi => ?_⟩, a4, rfl, a5⟩
  · by_cases e : i < rs.length
    · simp only [List.getElem_append_left e]; exact a4.reads (h.ne i e) (h.rd i e)
    · have ei : i = rs.length := by simp at hi; omega
      subst ei
      simp only [List.getElem_concat_length]; exact a4.reads hn hr
  · by_cases e : i < rs.length
    · simp only [List.getElem_append_left e]; have := h.lt i e; omega
    · have ei : i = rs.length := by simp at hi; omega
      subst ei
      simp only [List.getElem_concat_length]; omega
  · by_cases e : i < rs.length
    · simp only [List.getElem_append_left e]; have := h.lt i e; omega
    · have ei : i = rs.length := by simp at hi; omega
      subst ei
      simp only [List.getElem_concat_length]; omega
  · by_cases e : i < rs.length
    · simp only [List.getElem_append_left e]; exact h.lo i e
    · have ei : i = rs.length := by simp at hi; omega
      subst ei
      simp only [List.getElem_concat_length]; exact hlo
  · by_cases e : i < rs.length
    · simp only [List.getElem_append_left e]; exact h.nn i e
    · have ei : i = rs.length := by simp at hi; omega
      subst ei
      simp only [List.getElem_concat_length]; exact hnn
theorem wo_app {H0 H : Hp} {s : Sl} {rs : List R} (h : WO H0 H s rs) (g : H0 <+: H) (hl : rs.length ≤ 1000000) (r : R) (hr : Own 1 H0 H r.sl (r.cells.map (.int .i64))) (hn : r.sl.blk ≠ s.blk) (hj : ∀ i, (h : i < rs.length) → rs[i].sl.blk ≠ r.sl.blk) :
    ∃ t' H', H.app 3 s 1 r.av = some (t', H') ∧ H0 <+: H' ∧ WO H0 H' t' (rs ++ [r]) ∧ But s.blk H H' ∧ t'.blk = H.length ∧ H'.length = H.length + 1 := by
  have hlen := own_len3 h.own
  obtain ⟨H', a1, a2, a3, a4, a5⟩ := own_app h.own g 1 r.av (by omega) (by omega) (by omega) (by omega) rfl
  have hsl : ∀ i, (hi : i < (rs ++ [r]).length) → (i < rs.length ∧ ∃ h : i < rs.length, (rs ++ [r])[i] = rs[i]) ∨ (i = rs.length ∧ (rs ++ [r])[i] = r) := by
    intro i hi
    by_cases e : i < rs.length
    · exact .inl ⟨e, e, List.getElem_append_left e⟩
    · have ei : i = rs.length := by simp at hi; omega
      subst ei
      exact .inr ⟨rfl, List.getElem_concat_length rfl _⟩
  refine ⟨_, H', a1, a2, ⟨by simpa using a3, fun i hi => ?_, fun i hi => ?_, fun i j hi hj' hij => ?_⟩, a4, rfl, a5⟩
  · rcases hsl i hi with ⟨e, e', eq⟩ | ⟨e, eq⟩
    · rw [eq]; exact a4.own (h.ne i e) (h.oc i e)
    · rw [eq]; exact a4.own hn hr
  · rcases hsl i hi with ⟨e, e', eq⟩ | ⟨e, eq⟩
    · rw [eq]; have := own_lt (h.oc i e); simp only; omega
    · rw [eq]; have := own_lt hr; simp only; omega
  · rcases hsl i hi with ⟨e, e', eq⟩ | ⟨e, eq⟩ <;> rcases hsl j hj' with ⟨f, f', fq⟩ | ⟨f, fq⟩
    · rw [eq, fq]; exact h.inj i j e f hij
    · rw [eq, fq]; exact hj i e
    · rw [eq, fq]; exact Ne.symm (hj j f)
    · omega

end Go.Proofs.Ytjikkamhljbipaa.Rp
/- The search for a puzzle's solutions: the model's side of the program. No conditions. -/
set_option linter.unusedVariables false
set_option linter.unusedSimpArgs false
namespace Go.Proofs.Ytjikkamhljbipaa.Rp
open Go Go.RowKit Go.Proofs.Ytjikkamhljbipaa.Ab

theorem take_app {α : Type} (A B : List α) (m : Nat) : ((A.take m) ++ B).take m = (A ++ B).take m := by
  rw [List.take_append, List.take_append, List.take_take, Nat.min_self, List.length_take]
  congr 1
  by_cases h : m ≤ A.length
  · rw [show min m A.length = m by omega, show m - A.length = 0 by omega, Nat.sub_self]
  · rw [show min m A.length = A.length by omega]
theorem grid_set' {g : List Int} {n : Int} (h : gridOk g n = true) (i : Nat) (v : Int) (hv : 0 ≤ v ∧ v ≤ n) : gridOk (g.set i v) n = true := grid_set h i v hv

/-- What the search comes to: the lists that were collected, and its own behind them, up to most. -/
def SearchTo (B : Hp) (b : Nat) (H : Hp) (s : Sl) (ls : List (List Int)) (most : Nat) (r : An) : Prop :=
  ∃ H' s' , r = some (.tup [], H') ∧ B <+: H' ∧ Outs B b H' s' (ls.take most) ∧ Adv2 b s.blk H H' ∧ (s'.blk = s.blk ∨ H.length ≤ s'.blk)

theorem l5Search_l0 {B : Hp} {b : Nat} {n : Int} {gs s : Sl} {given : List Int} {rs : List R} (hz : PuzAt B n gs s given rs) (hro : ∀ r ∈ rs, R.ok n r = true) (hgg : gridOk given n = true) {most : Nat} (hmost : most ≤ 1000) :
    ∀ (rem k fuel : Nat), 2000100 + rem ≤ k → rem < fuel → ∀ (H : Hp) (xs o : Sl) (g : List Int) (ls : List (List Int)), rem ≤ g.length → B <+: H → Outs B b H o ls → ls.length < most → Reads .i64 H xs g → xs.blk ≠ b → xs.blk ≠ o.blk → gridOk g n = true →
      SearchTo B b H o (ls ++ sols (fitsV n given (rs.map R.val)) n.toNat rem g) most (spec_l5Search.l0 (callF PP orc k) k fuel xs ((g.length - rem : Nat) : Int) (most : Int) b 0 n gs s H) := by
  have hn := hz.n4
  intro rem
  induction rem with
  | zero =>
    intro k fuel hk hf H xs o g ls hrem hB ho hlm hx hxb hxo hg
    obtain ⟨fuel, rfl⟩ : ∃ q, fuel = q + 1 := ⟨fuel - 1, by omega⟩
    have h16 := gridOk_len hg
    have hxl := hx.len
    have hol := ho.len
    have hcell : ldS 1 H b 0 = some o := by unfold ldS Hp.cell; rw [ho.cell]; simp [AV.toS]
    have hbl := (List.getElem?_eq_some_iff.1 ho.cell).1
    have g1 : H <+: H ++ [some (Blk.mk false (g.map (.int .i64)))] := List.prefix_append _ _
    have hnew := own_new 1 H (g.map (.int .i64)) g.length (by simp)
    have hst : stableB H (H ++ [some (Blk.mk false (g.map (.int .i64)))]) b 0 1 = true := by
      have e1 : H.cell b 0 = some (.sl 1 o) := by unfold Hp.cell; rw [ho.cell]; rfl
      have e2 := pf_cell g1 e1
      unfold stableB
      simp [e1, e2, AV.same]
    have hob : o.blk < H.length := by obtain ⟨ss, h1, _⟩ := ho.ex; exact own_lt' h1
    obtain ⟨H1, H2, a1, a2, a3, a4, a5⟩ := outs_app (ho.pf g1) (hB.trans g1) (by omega) (own_base hnew hB) (by first | omega | (simp only; omega) | (simp; omega)) (by first | omega | (simp only; omega) | (simp; omega)) (by simp) hB.length_le
    refine ⟨H2, Sl.mk false (H ++ [some (Blk.mk false (g.map (.int .i64)))]).length 0 (ls.length + 1), ?_, a5, ?_, (pf_adv2 g1).trans a4 (.inl rfl), .inr (by simp)⟩
    · simp (disch := omega) only [spec_l5Search.l0, spec_l5Search.j1, spec_l5Search.j3, dt, df, bt, bf, nt, nf, Bool.and_self, Bool.not_true, Bool.not_false, cond_true, cond_false, Int.toNat_natCast, Int.toNat_zero, Int.toNat_one, Option.bind_some, wr, AV.toB, AV.toI, AV.toS, if_true, hcell, read_ok hx, hxl, appl_ok, cells_ok, hst, a1, a2]
    · rw [sols, List.take_of_length_le (by simp; omega)]
      exact a3
  | succ rem ih =>
    intro k fuel hk hf H xs o g ls hrem hB ho hlm hx hxb hxo hg
    obtain ⟨fuel, rfl⟩ : ∃ q, fuel = q + 1 := ⟨fuel - 1, by omega⟩
    have h16 := gridOk_len hg
    have hxl := hx.len
    have hol := ho.len
    obtain ⟨_, g2, g3⟩ := (gridOk_iff g n).1 hg
    have hcell : ∀ {H' : Hp} {o' : Sl} {ls' : List (List Int)}, Outs B b H' o' ls' → ldS 1 H' b 0 = some o' := fun ho => by unfold ldS Hp.cell; rw [ho.cell]; simp [AV.toS]
    have hat : g.length - (rem + 1) < g.length := by omega
    generalize hA : g.length - (rem + 1) = at' at hat ⊢
    have hnext : IntKind.i64.wrap ((at' : Int) + 1) = ((g.length - rem : Nat) : Int) := by rw [wr (by omega) (by omega)]; omega
    rw [sols, hA]
    by_cases c : 0 < g.getD at' 0
    · rw [ip c]
      have h1 := ih k fuel (by omega) (by omega) H xs o g ls (by omega) hB ho hlm hx hxb hxo hg
      rw [← hnext] at h1
      simp (disch := omega) only [spec_l5Search.l0, spec_l5Search.j1, spec_l5Search.j2, dt, df, bf, Bool.and_self, cond_true, cond_false, Int.toNat_natCast, Option.bind_some, rdn hx]
      exact h1
    · rw [iN c]
      have hbound : ∀ {o' : Sl} {H' : Hp} {ls' : List (List Int)}, Outs B b H' o' ls' → o'.blk < H'.length := fun ho => by obtain ⟨ss, h1, _⟩ := ho.ex; exact own_lt' h1
      have loop : ∀ (j fuel : Nat) (v : Int) (Hc : Hp) (oc : Sl) (lc : List (List Int)), v + j = n + 1 → 1 ≤ v → j < fuel → B <+: Hc → Outs B b Hc oc lc → lc.length ≤ most → Adv2 b o.blk H Hc → (oc.blk = o.blk ∨ H.length ≤ oc.blk) →
          SearchTo B b H o (lc ++ (upto j v).flatMap fun v => if fitsV n given (rs.map R.val) (g.set at' v) = true then sols (fitsV n given (rs.map R.val)) n.toNat rem (g.set at' v) else []) most (spec_l5Search.l4 (callF PP orc k) k fuel xs at' (most : Int) b 0 v n gs s Hc) := by
        intro j
        induction j with
        | zero =>
          intro fuel v Hc oc lc hv hv1 hf hBc hoc hlc hadv hocb
          obtain ⟨fuel, rfl⟩ : ∃ q, fuel = q + 1 := ⟨fuel - 1, by omega⟩
          refine ⟨Hc, oc, ?_, hBc, ?_, hadv, hocb⟩
          · simp (disch := omega) only [spec_l5Search.l4, spec_l5Search.j5, dt, df, bt, bf, nt, nf, Bool.and_self, Bool.not_true, Bool.not_false, cond_true, cond_false, Int.toNat_natCast, Int.toNat_zero, Int.toNat_one, Option.bind_some, wr, AV.toB, AV.toI, AV.toS, if_true]
          · rw [upto, List.flatMap_nil, List.append_nil, List.take_of_length_le hlc]; exact hoc
        | succ j ihj =>
          intro fuel v Hc oc lc hv hv1 hf hBc hoc hlc hadv hocb
          obtain ⟨fuel, rfl⟩ : ∃ q, fuel = q + 1 := ⟨fuel - 1, by omega⟩
          have hcl := hcell hoc
          have hol := hoc.len
          by_cases cm : lc.length < most
          · have hxc := hadv.reads hxb hxo hx
            have hle := hadv.le
            have hbl := (List.getElem?_eq_some_iff.1 hoc.cell).1
            have hobl := hbound hoc
            have g1 : Hc <+: Hc ++ [some (Blk.mk false (g.map (.int .i64)))] := List.prefix_append _ _
            have hnew := own_new 1 Hc (g.map (.int .i64)) g.length (by simp)
            obtain ⟨H1, a1, a2, a3, a4⟩ := own_set1 hnew g1 at' hat v
            simp only at a1
            have hg1 := grid_set hg at' v ⟨by omega, by omega⟩
            obtain ⟨H2, b1, b2⟩ := specl5Fits_ok (show 2000041 ≤ k by omega) (hz.pf (hBc.trans a2)) hro (own_reads a3) hg1 (by rw [List.length_set]; exact grid_len_eq hgg hg)
            have p2 : Hc <+: H2 := a2.trans b2
            have hr2 := pf_reads b2 (own_reads a3)
            rw [upto, List.flatMap_cons, ← List.append_assoc]
            cases cf : fitsV n given (rs.map R.val) (g.set at' v) with
            | true =>
              rw [cf] at b1
              rw [ip rfl]
              obtain ⟨k', rfl⟩ : ∃ q, k = q + 1 := ⟨k - 1, by omega⟩
              obtain ⟨H3, o3, d1, d2, d3, d4, d5⟩ := ih k' k' (by omega) (by omega) H2 (Sl.mk false Hc.length 0 g.length) oc (g.set at' v) lc (by simp; omega) (hBc.trans p2) (hoc.pf p2) cm hr2 (by first | omega | (simp only; omega) | (simp; omega)) (by first | omega | (simp only; omega) | (simp; omega)) hg1
              rw [List.length_set, ← hnext] at d1
              have adv3 : Adv2 b o.blk H H3 := (hadv.trans (pf_adv2 (b := b) (c := o.blk) p2) (.inl rfl)).trans d4 hocb
              have hb3 : o3.blk = o.blk ∨ H.length ≤ o3.blk := by
                have := p2.length_le
                rcases d5 with e | e
                · rw [e]; exact hocb
                · right; omega
              have h2 := ihj fuel (v + 1) H3 o3 _ (by omega) (by omega) (by omega) d2 d3 (by simp; omega) adv3 hb3
              have e : SearchTo B b H o ((lc ++ sols (fitsV n given (rs.map R.val)) n.toNat rem (g.set at' v)) ++ (upto j (v + 1)).flatMap fun v => if fitsV n given (rs.map R.val) (g.set at' v) = true then sols (fitsV n given (rs.map R.val)) n.toNat rem (g.set at' v) else []) most (spec_l5Search.l4 (callF PP orc (k' + 1)) (k' + 1) fuel xs at' (most : Int) b 0 (v + 1) n gs s H3) := by
                obtain ⟨H', s', q1, q2, q3, q4, q5⟩ := h2
                rw [take_app] at q3
                exact ⟨H', s', q1, q2, q3, q4, q5⟩
              have hcall : callF PP orc (k' + 1) spec_l5Search.id [.agg [.int .i64 n, .sl 1 gs, .sl 3 s], .sl 1 (Sl.mk false Hc.length 0 g.length), .int .i64 (IntKind.i64.wrap ((at' : Int) + 1)), .int .i64 (most : Int), .ptr b 0] H2 = some (.tup [], H3) := by
                rw [spec_l5Search.call]; exact d1
              simp (disch := omega) only [spec_l5Search.l4, spec_l5Search.j5, spec_l5Search.j6, spec_l5Search.j7, dt, Bool.and_self, cond_true, Int.toNat_natCast, Option.bind_some, hcl, read_ok hxc, hxl, appl_ok, cells_ok, a1, b1, AV.toB, hcall, wr (n := v + 1)]
              exact e
            | false =>
              rw [cf] at b1
              rw [iN (by simp), List.append_nil]
              have h2 := ihj fuel (v + 1) H2 oc lc (by omega) (by omega) (by omega) (hBc.trans p2) (hoc.pf p2) hlc (hadv.trans (pf_adv2 (b := b) (c := o.blk) p2) (.inl rfl)) hocb
              simp (disch := omega) only [spec_l5Search.l4, spec_l5Search.j5, spec_l5Search.j6, spec_l5Search.j7, dt, Bool.and_self, cond_true, cond_false, Int.toNat_natCast, Option.bind_some, hcl, read_ok hxc, hxl, appl_ok, cells_ok, a1, b1, AV.toB, wr (n := v + 1)]
              exact h2
          · refine ⟨Hc, oc, ?_, hBc, ?_, hadv, hocb⟩
            · simp (disch := omega) only [spec_l5Search.l4, spec_l5Search.j5, dt, df, bt, bf, nt, nf, Bool.and_self, Bool.not_true, Bool.not_false, cond_true, cond_false, Int.toNat_natCast, Int.toNat_zero, Int.toNat_one, Option.bind_some, wr, AV.toB, AV.toI, AV.toS, if_true, hcl]
            · rw [List.take_append_of_le_length (by omega), List.take_of_length_le hlc]; exact hoc
      have h1 := loop n.toNat k 1 H o ls (by omega) (by omega) (by omega) hB ho (by omega) (Adv2.refl _ _ _) (.inl rfl)
      simp (disch := omega) only [spec_l5Search.l0, spec_l5Search.j1, spec_l5Search.j3, dt, df, bf, Bool.and_self, cond_true, cond_false, Int.toNat_natCast, Option.bind_some, rdn hx]
      exact h1

/-! ### spec.l5All -/
/-- Lists of numbers in a list. -/
structure ReadsL (B H : Hp) (s : Sl) (ls : List (List Int)) : Prop where
  len : s.len = ls.length
  at' : ∀ i, (h : i < ls.length) → ∃ t, H.cell s.blk (s.off + i) = some (.sl 1 t) ∧ Own 1 B H t (ls[i].map (.int .i64))
theorem Outs.reads {B H : Hp} {b : Nat} {s : Sl} {ls : List (List Int)} (h : Outs B b H s ls) : ReadsL B H s ls := by
  obtain ⟨ss, h1, h2, h3⟩ := h.ex
  refine ⟨h.len, fun i hi => ⟨ss[i]'(by omega), ?_, (h3 i (by omega) hi).1⟩⟩
  rw [own_cell h1]
  simp [show i < ss.length by omega]
theorem specl5All_ok {k : Nat} (hk : 2000200 ≤ k) {H : Hp} {n : Int} {gs s : Sl} {given : List Int} {rs : List R} (hz : PuzAt H n gs s given rs) {most : Nat} (h0 : 1 ≤ most) (hmost : most ≤ 1000) :
    ∃ t H', callF PP orc k spec_l5All.id [.agg [.int .i64 n, .sl 1 gs, .sl 3 s], .int .i64 (most : Int)] H = some (.sl 1 t, H') ∧ H <+: H' ∧ ReadsL H H' t ((allSols n given (rs.map R.val)).take most) := by
  obtain ⟨k, rfl⟩ : ∃ q, k = q + 1 := ⟨k - 1, by omega⟩
  rw [spec_l5All.call]
  obtain ⟨H1, a1, a2, a3, a4⟩ := sto1' (H := H ++ [some (Blk.mk false [])] ++ [some (Blk.mk false [.sl 1 Sl.none])]) (b := (H ++ [some (Blk.mk false [])]).length) (x := .sl 1 Sl.none) (by simp) (.sl 1 (Sl.mk false H.length 0 0))
  have hb : (H ++ [some (Blk.mk false ([] : List AV))]).length = H.length + 1 := by simp
  have p1 : H <+: H1 := a3.pf (H0 := H) (by simp) ((List.prefix_append _ _).trans (List.prefix_append _ _)) (by omega)
  have ho1 : Outs H (H ++ [some (Blk.mk false ([] : List AV))]).length H1 (Sl.mk false H.length 0 0) [] := by
    refine ⟨a2, by simp, by simp, [], ?_, rfl, fun i hi => by simp at hi⟩
    exact ⟨rfl, rfl, Nat.le_refl _, a3 _ _ (by simp) (by simp), rfl⟩
  obtain ⟨H2, b1, b2⟩ := specPuzzleFits_ok (show 2000042 ≤ k by omega) (hz.pf p1) (pf_reads p1 hz.rg) hz.gl
  have ho2 := ho1.pf b2
  unfold allSols
  cases c : puzzleFitsV n given (rs.map R.val) given with
  | false =>
    rw [c] at b1
    have hl : ldS 1 H2 (H ++ [some (Blk.mk false ([] : List AV))]).length 0 = some (Sl.mk false H.length 0 0) := by unfold ldS Hp.cell; rw [ho2.cell]; simp [AV.toS]
    refine ⟨Sl.mk false H.length 0 0, H2, by simp only [spec_l5All.f, spec_l5All.j0, dt, df, bt, bf, nt, nf, Bool.and_self, Bool.not_true, Bool.not_false, cond_true, cond_false, Int.toNat_natCast, Int.toNat_zero, Int.toNat_one, Option.bind_some, wr, AV.toB, AV.toI, AV.toS, if_true, a1, b1, hl], p1.trans b2, ?_⟩
    rw [iN (by simp), List.take_nil]
    exact ho2.reads
  | true =>
    rw [c] at b1
    obtain ⟨k, rfl⟩ : ∃ q, k = q + 1 := ⟨k - 1, by omega⟩
    unfold puzzleFitsV at c
    simp only [Bool.and_eq_true] at c
    obtain ⟨q1, q2, q3⟩ := puzzleV_iff c.1
    have h16 := gridOk_len q1
    have hne : gs.blk ≠ (H ++ [some (Blk.mk false ([] : List AV))]).length ∧ gs.blk ≠ H.length := by
      have hlt : 0 < given.length := by
        have := ((gridOk_iff given n).1 q1).2.1
        have hn := hz.n4
        have : n = 2 ∨ n = 3 ∨ n = 4 := by omega
        rcases this with rfl | rfl | rfl <;> omega
      have := cell_lt (hz.rg.cell 0 hlt)
      omega
    obtain ⟨H3, o3, d1, d2, d3, d4, d5⟩ := l5Search_l0 hz q3 q1 hmost given.length k k (by omega) (by omega) H2 gs _ given [] (Nat.le_refl _) (p1.trans b2) ho2 (by simp; omega) (pf_reads (p1.trans b2) hz.rg) hne.1 hne.2 q1
    have hl : ldS 1 H3 (H ++ [some (Blk.mk false ([] : List AV))]).length 0 = some o3 := by unfold ldS Hp.cell; rw [d3.cell]; simp [AV.toS]
    have hcall : callF PP orc (k + 1) spec_l5Search.id [.agg [.int .i64 n, .sl 1 gs, .sl 3 s], .sl 1 gs, .int .i64 0, .int .i64 (most : Int), .ptr (H ++ [some (Blk.mk false ([] : List AV))]).length 0] H2 = some (.tup [], H3) := by
      rw [spec_l5Search.call]
      rw [Nat.sub_self] at d1; exact d1
    refine ⟨o3, H3, by simp only [spec_l5All.f, spec_l5All.j0, dt, df, bt, bf, nt, nf, Bool.and_self, Bool.not_true, Bool.not_false, cond_true, cond_false, Int.toNat_natCast, Int.toNat_zero, Int.toNat_one, Option.bind_some, wr, AV.toB, AV.toI, AV.toS, if_true, a1, b1, hl, hcall], d2, ?_⟩
    rw [ip rfl]
    exact d3.reads
end Go.Proofs.Ytjikkamhljbipaa.Rp
/- Functions of the program as plain Lean functions. No conditions. -/
set_option linter.unusedVariables false
set_option linter.unusedSimpArgs false
set_option maxRecDepth 100000
namespace Go.Proofs.Ytjikkamhljbipaa.Rp
open Go Go.Proofs.Ytjikkamhljbipaa.Ab
noncomputable def impl_solutions.body : Code := (Go.Proofs.Try.f53).body.getD .skip
noncomputable def impl_solutions.f (rec : Rec) (k : Nat) (a0_0 : Int) (a0_1 : Sl) (a0_2 : Sl) (a1 : Sl) (a2f : Nat) (a2c : List AV) (H : Hp) : An := (rec slices_Clone_int.id [.sl 1 a1] (H ++ [some (Blk.mk false [.int .i64 a0_0, .sl 1 a0_1, .sl 3 a0_2])] ++ [some (Blk.mk false [.fn a2f a2c])])).bind fun r1 => (r1.1.toS 1).bind fun s2 => ((r1.2 ++ [some (Blk.mk false [.sl 1 Sl.none])]).sto r1.2.length 0 [.sl 1 s2]).bind fun H3 => (ldI .i64 H3 H.length 0).bind fun n4 => (ldS 1 H3 H.length (0 + 1)).bind fun s5 => (ldS 3 H3 H.length (0 + 1 + 1)).bind fun s6 => (ldS 1 H3 r1.2.length 0).bind fun s7 => (rec impl_PuzzleFits.id [.agg [.int .i64 n4, .sl 1 s5, .sl 3 s6], .sl 1 s7] H3).bind fun r8 => r8.1.toB.bind fun b9 => bif !b9 then some (.tup [], r8.2) else (ldI .i64 r8.2 H.length (0 + 0)).bind fun n10 => ((r8.2 ++ [some (Blk.mk false [.int .i64 0])]).sto r8.2.length 0 [.int .i64 n10]).bind fun H11 => ((H11 ++ [some (Blk.mk false [.nilf])]).sto H11.length 0 [.fn impl_solutions_1.id [.ptr r1.2.length 0, .ptr ((H ++ [some (Blk.mk false [.int .i64 a0_0, .sl 1 a0_1, .sl 3 a0_2])]).length) 0, .ptr H11.length 0, .ptr r8.2.length 0, .ptr H.length 0]]).bind fun H12 => (ldF H12 H11.length 0).bind fun q13 => bif okF Go.Proofs.Try.prog q13.1 && ([.int .i64 0] ++ q13.2 : List AV).all AV.glob then (rec q13.1 ([.int .i64 0] ++ q13.2) H12).bind fun r14 => r14.1.toB.bind fun b15 => some (.tup [], r14.2) else none
theorem impl_solutions.f_eq (rec : Rec) (k : Nat) : ∀ a0_0 a0_1 a0_2 a1 a2f a2c H, impl_solutions.f rec k a0_0 a0_1 a0_2 a1 a2f a2c H = ex PP (orc impl_solutions.id) rec k impl_solutions.body (St.of 20 [(0, .agg [.int .i64 a0_0, .sl 1 a0_1, .sl 3 a0_2]), (1, .sl 1 a1), (2, .fn a2f a2c)] []) H (K0 PP Go.Proofs.Try.f53) := by
  intros a0_0 a0_1 a0_2 a1 a2f a2c H
  unfold impl_solutions.f
  kernel_rfl
theorem impl_solutions.call (k : Nat) : ∀ a0_0 a0_1 a0_2 a1 a2f a2c H, callF PP orc (k + 1) impl_solutions.id [.agg [.int .i64 a0_0, .sl 1 a0_1, .sl 3 a0_2], .sl 1 a1, .fn a2f a2c] H = impl_solutions.f (callF PP orc k) k a0_0 a0_1 a0_2 a1 a2f a2c H := by
  intros a0_0 a0_1 a0_2 a1 a2f a2c H
  rw [callF_at (fn := Go.Proofs.Try.f53) (c := impl_solutions.body) Go.Proofs.Try.func53 (by kernel_rfl) (Nat.le_of_ble_eq_true (by kernel_rfl)), impl_solutions.f_eq]
  kernel_rfl
noncomputable def impl_solutions_1.body : Code := (Go.Proofs.Try.f83).body.getD .skip
noncomputable def impl_solutions_1.j2 (rec : Rec) (k : Nat) (x0 : Int) (x1b : Nat) (x1o : Nat) (H : Hp) : An := (ldS 1 H x1b x1o).bind fun s23 => bif decide (0 ≤ (x0 : Int)) && decide ((x0 : Int) < s23.len) then (H.sto s23.blk (s23.off + (x0 : Int).toNat * 1) [.int .i64 0]).bind fun H24 => some (.bool true, H24) else none
noncomputable def impl_solutions_1.j3 (rec : Rec) (k : Nat) (L0 : Int → Nat → Nat → Nat → Nat → Nat → Nat → Nat → Nat → Int → Hp → An) (x0 : Int) (x1b : Nat) (x1o : Nat) (x3b : Nat) (x3o : Nat) (x4b : Nat) (x4o : Nat) (x5b : Nat) (x5o : Nat) (x8 : Int) (H : Hp) : An := L0 x0 x1b x1o x3b x3o x4b x4o x5b x5o (IntKind.i64.wrap (x8 + 1)) H
noncomputable def impl_solutions_1.j1 (rec : Rec) (k : Nat) (L0 : Int → Nat → Nat → Nat → Nat → Nat → Nat → Nat → Nat → Int → Hp → An) (x0 : Int) (x1b : Nat) (x1o : Nat) (x3b : Nat) (x3o : Nat) (x4b : Nat) (x4o : Nat) (x5b : Nat) (x5o : Nat) (x8 : Int) (x44 : Bool) (H : Hp) : An := bif x44 then some (.bool false, H) else impl_solutions_1.j3 rec k L0 x0 x1b x1o x3b x3o x4b x4o x5b x5o x8 H
noncomputable def impl_solutions_1.l0 (rec : Rec) (k : Nat) : Nat → Int → Nat → Nat → Nat → Nat → Nat → Nat → Nat → Nat → Int → Hp → An
  | 0, _, _, _, _, _, _, _, _, _, _, _ => none
  | n + 1, x0, x1b, x1o, x3b, x3o, x4b, x4o, x5b, x5o, x8, H => (ldI .i64 H x4b x4o).bind fun n11 => bif decide (x8 ≤ n11) then (ldS 1 H x1b x1o).bind fun s12 => bif decide (0 ≤ (x0 : Int)) && decide ((x0 : Int) < s12.len) then (H.sto s12.blk (s12.off + (x0 : Int).toNat * 1) [.int .i64 x8]).bind fun H13 => (ldI .i64 H13 x5b x5o).bind fun n14 => (ldS 1 H13 x5b (x5o + 1)).bind fun s15 => (ldS 3 H13 x5b (x5o + 1 + 1)).bind fun s16 => (ldS 1 H13 x1b x1o).bind fun s17 => (rec impl_cellFits.id [.agg [.int .i64 n14, .sl 1 s15, .sl 3 s16], .sl 1 s17, .int .i64 x0] H13).bind fun r18 => r18.1.toB.bind fun b19 => bif b19 then (ldF r18.2 x3b x3o).bind fun q20 => bif okF Go.Proofs.Try.prog q20.1 && ([.int .i64 (IntKind.i64.wrap (x0 + 1))] ++ q20.2 : List AV).all AV.glob then (rec q20.1 ([.int .i64 (IntKind.i64.wrap (x0 + 1))] ++ q20.2) r18.2).bind fun r21 => r21.1.toB.bind fun b22 => impl_solutions_1.j1 rec k (impl_solutions_1.l0 rec k n) x0 x1b x1o x3b x3o x4b x4o x5b x5o x8 (!b22) r21.2 else none else impl_solutions_1.j1 rec k (impl_solutions_1.l0 rec k n) x0 x1b x1o x3b x3o x4b x4o x5b x5o x8 false r18.2 else none else impl_solutions_1.j2 rec k x0 x1b x1o H
noncomputable def impl_solutions_1.f (rec : Rec) (k : Nat) (a0 : Int) (c0b : Nat) (c0o : Nat) (c1b : Nat) (c1o : Nat) (c2b : Nat) (c2o : Nat) (c3b : Nat) (c3o : Nat) (c4b : Nat) (c4o : Nat) (H : Hp) : An := (ldS 1 H c0b c0o).bind fun s1 => bif a0 == (s1.len : Int) then (ldF H c1b c1o).bind fun q2 => (ldS 1 H c0b c0o).bind fun s3 => bif okF Go.Proofs.Try.prog q2.1 && ([.sl 1 s3] ++ q2.2 : List AV).all AV.glob then (rec q2.1 ([.sl 1 s3] ++ q2.2) H).bind fun r4 => r4.1.toB.bind fun b5 => some (.bool b5, r4.2) else none else (ldS 1 H c0b c0o).bind fun s6 => bif decide (0 ≤ (a0 : Int)) && decide ((a0 : Int) < s6.len) then (ldI .i64 H s6.blk (s6.off + (a0 : Int).toNat * 1)).bind fun n7 => bif decide (n7 > 0) then (ldF H c2b c2o).bind fun q8 => bif okF Go.Proofs.Try.prog q8.1 && ([.int .i64 (IntKind.i64.wrap (a0 + 1))] ++ q8.2 : List AV).all AV.glob then (rec q8.1 ([.int .i64 (IntKind.i64.wrap (a0 + 1))] ++ q8.2) H).bind fun r9 => r9.1.toB.bind fun b10 => some (.bool b10, r9.2) else none else impl_solutions_1.l0 rec k k a0 c0b c0o c2b c2o c3b c3o c4b c4o 1 H else none
theorem impl_solutions_1.j2_eq (rec : Rec) (k : Nat) : ∀ x0 x1b x1o H, impl_solutions_1.j2 rec k x0 x1b x1o H = ex PP (orc impl_solutions_1.id) rec k (sub impl_solutions_1.body [1, 1, 1, 1]) (St.of 48 [(0, .int .i64 x0), (1, .ptr x1b x1o)] []) H (kAt PP (orc impl_solutions_1.id) rec k impl_solutions_1.body [1, 1, 1, 1] [] (K0 PP Go.Proofs.Try.f83)) := by
  intros x0 x1b x1o H
  unfold impl_solutions_1.j2
  kernel_rfl
theorem impl_solutions_1.j3_eq (rec : Rec) (k : Nat) (n0 : Nat) (L0 : Int → Nat → Nat → Nat → Nat → Nat → Nat → Nat → Nat → Int → Hp → An) (hL0 : ∀ x0 x1b x1o x3b x3o x4b x4o x5b x5o x8 H, L0 x0 x1b x1o x3b x3o x4b x4o x5b x5o x8 H = iter ((orc impl_solutions_1.id).at (lbody (sub impl_solutions_1.body [1, 1, 1, 0, 1, 0]))) (ex PP (orc impl_solutions_1.id) rec k (lbody (sub impl_solutions_1.body [1, 1, 1, 0, 1, 0]))) (kAt PP (orc impl_solutions_1.id) rec k impl_solutions_1.body [1, 1, 1, 0, 1, 0] [] (K0 PP Go.Proofs.Try.f83)) n0 (St.of 48 [(0, .int .i64 x0), (1, .ptr x1b x1o), (3, .ptr x3b x3o), (4, .ptr x4b x4o), (5, .ptr x5b x5o), (8, .int .i64 x8)] []) H) : ∀ x0 x1b x1o x3b x3o x4b x4o x5b x5o x8 H, impl_solutions_1.j3 rec k L0 x0 x1b x1o x3b x3o x4b x4o x5b x5o x8 H = ex PP (orc impl_solutions_1.id) rec k (sub impl_solutions_1.body [1, 1, 1, 0, 1, 0, 0, 1, 1]) (St.of 48 [(0, .int .i64 x0), (1, .ptr x1b x1o), (3, .ptr x3b x3o), (4, .ptr x4b x4o), (5, .ptr x5b x5o), (8, .int .i64 x8)] []) H (kAt PP (orc impl_solutions_1.id) rec k impl_solutions_1.body [1, 1, 1, 0, 1, 0, 0, 1, 1] [n0] (K0 PP Go.Proofs.Try.f83)) := by
  intros x0 x1b x1o x3b x3o x4b x4o x5b x5o x8 H
  unfold impl_solutions_1.j3
  try simp only [hL0, -eq_self]
  kernel_rfl
theorem impl_solutions_1.j1_eq (rec : Rec) (k : Nat) (n0 : Nat) (L0 : Int → Nat → Nat → Nat → Nat → Nat → Nat → Nat → Nat → Int → Hp → An) (hL0 : ∀ x0 x1b x1o x3b x3o x4b x4o x5b x5o x8 H, L0 x0 x1b x1o x3b x3o x4b x4o x5b x5o x8 H = iter ((orc impl_solutions_1.id).at (lbody (sub impl_solutions_1.body [1, 1, 1, 0, 1, 0]))) (ex PP (orc impl_solutions_1.id) rec k (lbody (sub impl_solutions_1.body [1, 1, 1, 0, 1, 0]))) (kAt PP (orc impl_solutions_1.id) rec k impl_solutions_1.body [1, 1, 1, 0, 1, 0] [] (K0 PP Go.Proofs.Try.f83)) n0 (St.of 48 [(0, .int .i64 x0), (1, .ptr x1b x1o), (3, .ptr x3b x3o), (4, .ptr x4b x4o), (5, .ptr x5b x5o), (8, .int .i64 x8)] []) H) : ∀ x0 x1b x1o x3b x3o x4b x4o x5b x5o x8 x44 H, impl_solutions_1.j1 rec k L0 x0 x1b x1o x3b x3o x4b x4o x5b x5o x8 x44 H = ex PP (orc impl_solutions_1.id) rec k (sub impl_solutions_1.body [1, 1, 1, 0, 1, 0, 0, 1, 0, 0, 1, 1]) (St.of 48 [(0, .int .i64 x0), (1, .ptr x1b x1o), (3, .ptr x3b x3o), (4, .ptr x4b x4o), (5, .ptr x5b x5o), (8, .int .i64 x8), (44, .bool x44)] []) H (kAt PP (orc impl_solutions_1.id) rec k impl_solutions_1.body [1, 1, 1, 0, 1, 0, 0, 1, 0, 0, 1, 1] [n0] (K0 PP Go.Proofs.Try.f83)) := by
  intros x0 x1b x1o x3b x3o x4b x4o x5b x5o x8 x44 H
  unfold impl_solutions_1.j1
  try simp only [hL0, impl_solutions_1.j3_eq rec k n0 L0 hL0, -eq_self]
  kernel_rfl
theorem impl_solutions_1.l0_eq (rec : Rec) (k : Nat) : ∀ n x0 x1b x1o x3b x3o x4b x4o x5b x5o x8 H, impl_solutions_1.l0 rec k n x0 x1b x1o x3b x3o x4b x4o x5b x5o x8 H = iter ((orc impl_solutions_1.id).at (lbody (sub impl_solutions_1.body [1, 1, 1, 0, 1, 0]))) (ex PP (orc impl_solutions_1.id) rec k (lbody (sub impl_solutions_1.body [1, 1, 1, 0, 1, 0]))) (kAt PP (orc impl_solutions_1.id) rec k impl_solutions_1.body [1, 1, 1, 0, 1, 0] [] (K0 PP Go.Proofs.Try.f83)) n (St.of 48 [(0, .int .i64 x0), (1, .ptr x1b x1o), (3, .ptr x3b x3o), (4, .ptr x4b x4o), (5, .ptr x5b x5o), (8, .int .i64 x8)] []) H := by
  intro n
  induction n with
  | zero => intros; rfl
  | succ n ih =>
    intros x0 x1b x1o x3b x3o x4b x4o x5b x5o x8 H
    simp only [impl_solutions_1.l0, impl_solutions_1.j1_eq rec k n (impl_solutions_1.l0 rec k n) (fun x0 x1b x1o x3b x3o x4b x4o x5b x5o x8 H => ih x0 x1b x1o x3b x3o x4b x4o x5b x5o x8 H), impl_solutions_1.j2_eq rec k, ih, -eq_self]
    kernel_rfl
theorem impl_solutions_1.f_eq (rec : Rec) (k : Nat) : ∀ a0 c0b c0o c1b c1o c2b c2o c3b c3o c4b c4o H, impl_solutions_1.f rec k a0 c0b c0o c1b c1o c2b c2o c3b c3o c4b c4o H = ex PP (orc impl_solutions_1.id) rec k impl_solutions_1.body (St.of 48 [(0, .int .i64 a0), (1, .ptr c0b c0o), (2, .ptr c1b c1o), (3, .ptr c2b c2o), (4, .ptr c3b c3o), (5, .ptr c4b c4o)] []) H (K0 PP Go.Proofs.Try.f83) := by
  intros a0 c0b c0o c1b c1o c2b c2o c3b c3o c4b c4o H
  unfold impl_solutions_1.f
  try simp only [impl_solutions_1.l0_eq rec k, -eq_self]
  kernel_rfl
theorem impl_solutions_1.call (k : Nat) : ∀ a0 c0b c0o c1b c1o c2b c2o c3b c3o c4b c4o H, callF PP orc (k + 1) impl_solutions_1.id [.int .i64 a0, .ptr c0b c0o, .ptr c1b c1o, .ptr c2b c2o, .ptr c3b c3o, .ptr c4b c4o] H = impl_solutions_1.f (callF PP orc k) k a0 c0b c0o c1b c1o c2b c2o c3b c3o c4b c4o H := by
  intros a0 c0b c0o c1b c1o c2b c2o c3b c3o c4b c4o H
  rw [callF_at (fn := Go.Proofs.Try.f83) (c := impl_solutions_1.body) Go.Proofs.Try.func83 (by kernel_rfl) (Nat.le_of_ble_eq_true (by kernel_rfl)), impl_solutions_1.f_eq]
  kernel_rfl
end Go.Proofs.Ytjikkamhljbipaa.Rp
/- The search of the program's own side: a closure that calls itself and tells what it finds. No conditions. -/
set_option linter.unusedVariables false
set_option linter.unusedSimpArgs false
namespace Go.Proofs.Ytjikkamhljbipaa.Rp
open Go Go.RowKit Go.Proofs.Ytjikkamhljbipaa.Ab

/-- What comes of telling one after the other, until told to stop. -/
def runL {σ : Type} (step : σ → List Int → σ × Bool) : σ → List (List Int) → σ × Bool
  | st, [] => (st, true)
  | st, x :: L => if (step st x).2 = true then runL step (step st x).1 L else ((step st x).1, false)
theorem runL_app {σ : Type} (step : σ → List Int → σ × Bool) : ∀ (A L : List (List Int)) (st : σ), runL step st (A ++ L) = if (runL step st A).2 = true then runL step (runL step st A).1 L else runL step st A
  | [], L, st => by simp [runL]
  | x :: A, L, st => by
    rw [List.cons_append, runL, runL]
    by_cases h : (step st x).2 = true
    · rw [if_pos h, if_pos h, runL_app step A L]
    · rw [if_neg h, if_neg h]; simp
theorem runL_one {σ : Type} (step : σ → List Int → σ × Bool) (st : σ) (x : List Int) : runL step st [x] = step st x := by
  rw [runL]
  by_cases h : (step st x).2 = true
  · rw [if_pos h, runL, ← h]
  · rw [if_neg h]
    rw [Bool.not_eq_true] at h
    rw [← h]
/-- A function that is told of grids; it changes the block b and another one. -/
structure Tell (B : Hp) (f : FuncId) (caps : List AV) (b d : Nat) {σ : Type} (step : σ → List Int → σ × Bool) (T : Nat → σ × Bool → Hp → Prop) (K : Nat) : Prop where
  ok : okF PP f = true
  gl : caps.all AV.glob = true
  bB : B.length ≤ b
  bd : b ≠ d
  pf : ∀ c st H H', T c st H → H <+: H' → T c st H'
  wr : ∀ c st H H', T c st H → But d H H' → H'.length = H.length → T c st H'
  go : ∀ k, K ≤ k → ∀ c st H t g, T c (st, true) H → B <+: H → Reads .i64 H t g → g.length ≤ 16 → t.blk = d → t.nil = false → c ≠ d → B.length ≤ c → ∃ H' c', callF PP orc k f ([.sl 1 t] ++ caps) H = some (.bool (step st g).2, H') ∧ T c' (step st g) H' ∧ Adv2 b c H H' ∧ (c' = c ∨ H.length ≤ c')
/-- From one heap to a later one, apart from three blocks. -/
structure Adv3 (d b c : Nat) (H H' : Hp) : Prop where
  but : ∀ (e : Nat) (x : Option Blk), e ≠ d → e ≠ b → e ≠ c → H[e]? = some x → H'[e]? = some x
  le : H.length ≤ H'.length
theorem Adv3.refl (d b c : Nat) (H : Hp) : Adv3 d b c H H := ⟨fun _ _ _ _ _ h => h, Nat.le_refl _⟩
theorem Adv3.trans {d b c c' : Nat} {H H1 H2 : Hp} (h : Adv3 d b c H H1) (h' : Adv3 d b c' H1 H2) (hc : c' = c ∨ H.length ≤ c') : Adv3 d b c H H2 :=
  ⟨fun e x h1 h2 h3 hx => by
    have hd := (List.getElem?_eq_some_iff.1 hx).1
    exact h'.but e x h1 h2 (by omega) (h.but e x h1 h2 h3 hx), Nat.le_trans h.le h'.le⟩
theorem pf_adv3 {d b c : Nat} {H H' : Hp} (g : H <+: H') : Adv3 d b c H H' := ⟨fun e x _ _ _ hx => pf_get g hx, g.length_le⟩
theorem adv_adv3 {d b c : Nat} {H H' : Hp} (g : Adv d H H') : Adv3 d b c H H' := ⟨fun e x h1 _ _ hx => g.but e x h1 hx, g.le⟩
theorem adv2_adv3 {d b c : Nat} {H H' : Hp} (g : Adv2 b c H H') : Adv3 d b c H H' := ⟨fun e x _ h2 h3 hx => g.but e x h2 h3 hx, g.le⟩
theorem Adv3.pf {d b c : Nat} {H H' B : Hp} (h : Adv3 d b c H H') (hd : B.length ≤ d) (hb : B.length ≤ b) (hc : B.length ≤ c) (g : B <+: H) : B <+: H' := by
  have hl0 := g.length_le
  have hle := h.le
  rw [List.prefix_iff_eq_take]
  apply List.ext_getElem?
  intro i
  by_cases hi : i < B.length
  · rw [List.getElem?_take, if_pos hi]
    have e := List.getElem?_eq_getElem hi
    rw [e, h.but i _ (by omega) (by omega) (by omega) (pf_get g e)]
  · rw [List.getElem?_eq_none (by omega), List.getElem?_eq_none (by simp; omega)]

/-- What the closure sees. -/
structure Bx (H : Hp) (gb tb yb nb pb : Nat) (n : Int) (gs ps ss : Sl) (f : FuncId) (caps : List AV) : Prop where
  bg : H[gb]? = some (some ⟨false, [.sl 1 gs]⟩)
  bt : H[tb]? = some (some ⟨false, [.fn f caps]⟩)
  bo : H[yb]? = some (some ⟨false, [.fn impl_solutions_1.id [.ptr gb 0, .ptr tb 0, .ptr yb 0, .ptr nb 0, .ptr pb 0]]⟩)
  bn : H[nb]? = some (some ⟨false, [.int .i64 n]⟩)
  bp : H[pb]? = some (some ⟨false, [.int .i64 n, .sl 1 ps, .sl 3 ss]⟩)
def Five (x gb tb yb nb pb : Nat) : Prop := gb ≠ x ∧ tb ≠ x ∧ yb ≠ x ∧ nb ≠ x ∧ pb ≠ x
theorem Bx.adv {H H' : Hp} {gb tb yb nb pb : Nat} {n : Int} {gs ps ss : Sl} {f : FuncId} {caps : List AV} (h : Bx H gb tb yb nb pb n gs ps ss f caps) {d b c : Nat} (a : Adv3 d b c H H') (hd : Five d gb tb yb nb pb) (hb : Five b gb tb yb nb pb) (hc : Five c gb tb yb nb pb) : Bx H' gb tb yb nb pb n gs ps ss f caps := by
  obtain ⟨d1, d2, d3, d4, d5⟩ := hd
  obtain ⟨b1, b2, b3, b4, b5⟩ := hb
  obtain ⟨c1, c2, c3, c4, c5⟩ := hc
  exact ⟨a.but _ _ d1 b1 c1 h.bg, a.but _ _ d2 b2 c2 h.bt, a.but _ _ d3 b3 c3 h.bo, a.but _ _ d4 b4 c4 h.bn, a.but _ _ d5 b5 c5 h.bp⟩
theorem Bx.five {H : Hp} {gb tb yb nb pb : Nat} {n : Int} {gs ps ss : Sl} {f : FuncId} {caps : List AV} (h : Bx H gb tb yb nb pb n gs ps ss f caps) {c : Nat} (hc : H.length ≤ c) : Five c gb tb yb nb pb := by
  have h1 := (List.getElem?_eq_some_iff.1 h.bg).1
  have h2 := (List.getElem?_eq_some_iff.1 h.bt).1
  have h3 := (List.getElem?_eq_some_iff.1 h.bo).1
  have h4 := (List.getElem?_eq_some_iff.1 h.bn).1
  have h5 := (List.getElem?_eq_some_iff.1 h.bp).1
  exact ⟨by omega, by omega, by omega, by omega, by omega⟩
theorem okSol : okF PP impl_solutions_1.id = true := by kernel_rfl
theorem box_fn {H : Hp} {b : Nat} {f : FuncId} {cs : List AV} (h : H[b]? = some (some ⟨false, [.fn f cs]⟩)) : ldF H b 0 = some (f, cs) := by unfold ldF Hp.cell; rw [h]; simp [AV.toF]
theorem set_set (l : List Int) (i : Nat) (a b : Int) : (l.set i a).set i b = l.set i b := by
  apply List.ext_getElem?
  intro j
  by_cases e : i = j
  · subst e
    by_cases h : i < l.length
    · rw [List.getElem?_set_self (by simpa using h), List.getElem?_set_self h]
    · rw [List.getElem?_eq_none (by simp; omega), List.getElem?_eq_none (by simp; omega)]
  · rw [List.getElem?_set_ne e, List.getElem?_set_ne e, List.getElem?_set_ne e]
theorem set_same (l : List Int) (i : Nat) (h : l.getD i 0 = 0) : l.set i 0 = l := by
  apply List.ext_getElem?
  intro j
  by_cases e : i = j
  · subst e
    by_cases hi : i < l.length
    · rw [List.getElem?_set_self hi, List.getElem?_eq_getElem hi]
      rw [List.getD_eq_getElem?_getD, List.getElem?_eq_getElem hi] at h
      simp at h; rw [h]
    · rw [List.getElem?_eq_none (by simp; omega), List.getElem?_eq_none (by omega)]
  · rw [List.getElem?_set_ne e]

/-- What the search comes to. -/
def SolTo {σ : Type} (B : Hp) (b : Nat) (gs : Sl) (T : Nat → σ × Bool → Hp → Prop) (c : Nat) (H : Hp) (g : List Int) (R : σ × Bool) (r : An) : Prop :=
  ∃ H' c' g', r = some (.bool R.2, H') ∧ B <+: H' ∧ Adv3 gs.blk b c H H' ∧ Own 1 B H' gs (g'.map (.int .i64)) ∧ g'.length = g.length ∧ (R.2 = true → g' = g) ∧ T c' R H' ∧ (c' = c ∨ H.length ≤ c')

/-- The puzzle stays where it is, whatever is told. -/
theorem fr_step {b c0 c d : Nat} {H0 H H1 : Hp} (hf : Adv2 b c0 H0 H) (ha : Adv3 d b c H H1) (hd : H0.length ≤ d) (hc : c = c0 ∨ H0.length ≤ c) : Adv2 b c0 H0 H1 :=
  ⟨fun e x h1 h2 hx => by
    have he := (List.getElem?_eq_some_iff.1 hx).1
    exact ha.but e x (by omega) h1 (by omega) (hf.but e x h1 h2 hx), Nat.le_trans hf.le ha.le⟩
theorem Sol_ok {B : Hp} {f : FuncId} {caps : List AV} {b : Nat} {gs ps ss : Sl} {σ : Type} {step : σ → List Int → σ × Bool} {T : Nat → σ × Bool → Hp → Prop} {K : Nat} (tell : Tell B f caps b gs.blk step T K) {gb tb yb nb pb : Nat} {n : Int} {given : List Int} {rs : List R} {H0 : Hp} {c0 : Nat} (hn : 2 ≤ n ∧ n ≤ 4) (hzk : ∀ H, Adv2 b c0 H0 H → PuzAt H n ps ss given rs) (hd0 : H0.length ≤ gs.blk) (hro : ∀ r ∈ rs, R.ok n r = true) (hgg : gridOk given n = true) (hd5 : Five gs.blk gb tb yb nb pb) (hb5 : Five b gb tb yb nb pb) :
    ∀ (rem k : Nat), K + 2000200 + rem ≤ k → ∀ (H : Hp) (g : List Int) (c : Nat) (st : σ), rem ≤ g.length → B <+: H → Bx H gb tb yb nb pb n gs ps ss f caps → Five c gb tb yb nb pb → c ≠ gs.blk → B.length ≤ c → Own 1 B H gs (g.map (.int .i64)) → gridOk g n = true → Le given g → fitsV n given (rs.map R.val) g = true → T c (st, true) H → Adv2 b c0 H0 H → (c = c0 ∨ H0.length ≤ c) →
      SolTo B b gs T c H g (runL step st (sols (fitsV n given (rs.map R.val)) n.toNat rem g)) (callF PP orc k impl_solutions_1.id [.int .i64 ((g.length - rem : Nat) : Int), .ptr gb 0, .ptr tb 0, .ptr yb 0, .ptr nb 0, .ptr pb 0] H) := by
  have hrv : ∀ r ∈ rs.map R.val, ruleOkV n r = true := by
    intro r hr
    obtain ⟨q, hq, e⟩ := List.mem_map.1 hr
    rw [← e]; exact hro q hq
  have hgiv : ∀ x, 0 ≤ given.getD x 0 := fun x => by
    have hgb := ((gridOk_iff given n).1 hgg).2.2
    by_cases h : x < given.length
    · exact (hgb _ (mem_getD h)).1
    · rw [List.getD_eq_getElem?_getD, List.getElem?_eq_none (by omega)]; simp
  intro rem
  induction rem with
  | zero =>
    intro k hk H g c st hrem hB hbx hc5 hcd hcB ho hg hle hf hT hfr hc0
    obtain ⟨k, rfl⟩ : ∃ q, k = q + 1 := ⟨k - 1, by omega⟩
    rw [impl_solutions_1.call]
    have rg := own_reads ho
    have hgl := rg.len
    have h16 := gridOk_len hg
    obtain ⟨H', c', a1, a2, a3, a4⟩ := tell.go k (by omega) c st H gs g hT hB rg h16 rfl ho.nn hcd hcB
    rw [sols, runL_one]
    have adv : Adv3 gs.blk b c H H' := adv2_adv3 a3
    refine ⟨H', c', g, ?_, adv.pf ho.blk tell.bB hcB hB, adv, a3.own (Ne.symm tell.bd) (Ne.symm hcd) ho, rfl, fun _ => rfl, a2, a4⟩
    have hcg : ([.sl 1 gs] ++ caps : List AV).all AV.glob = true := by rw [List.all_append, tell.gl]; rfl
    simp (disch := omega) only [impl_solutions_1.f, dt, df, bt, bf, nt, nf, Bool.and_self, Bool.not_true, Bool.not_false, cond_true, cond_false, Int.toNat_natCast, Int.toNat_zero, Int.toNat_one, Option.bind_some, wr, AV.toB, AV.toI, AV.toS, if_true, box_sl hbx.bg, box_fn hbx.bt, tell.ok, hcg, a1]
  | succ rem ih =>
    intro k hk H g c st hrem hB hbx hc5 hcd hcB ho hg hle hf hT hfr hc0
    obtain ⟨k, rfl⟩ : ∃ q, k = q + 1 := ⟨k - 1, by omega⟩
    rw [impl_solutions_1.call]
    have rg := own_reads ho
    have hgl := rg.len
    have h16 := gridOk_len hg
    have hat : g.length - (rem + 1) < g.length := by omega
    rw [sols]
    generalize hA : g.length - (rem + 1) = at' at hat ⊢
    have hnext : IntKind.i64.wrap ((at' : Int) + 1) = ((g.length - rem : Nat) : Int) := by rw [wr (by omega) (by omega)]; omega
    have hfy := box_fn hbx.bo
    have hcg : ∀ z : Int, ([.int .i64 z, .ptr gb 0, .ptr tb 0, .ptr yb 0, .ptr nb 0, .ptr pb 0] : List AV).all AV.glob = true := fun z => rfl
    by_cases c0 : 0 < g.getD at' 0
    · rw [ip c0]
      have h1 := ih k (by omega) H g c st (by omega) hB hbx hc5 hcd hcB ho hg hle hf hT hfr hc0
      rw [← hnext] at h1
      obtain ⟨H', c', g', e1, e2⟩ := h1
      refine ⟨H', c', g', ?_, e2⟩
      simp only [impl_solutions_1.f, box_sl hbx.bg, Option.bind_some, bf (show (at' : Int) ≠ (gs.len : Int) by omega), cond_false, cond_true, dt (show (0 : Int) ≤ (at' : Int) by omega), dt (show (at' : Int) < (gs.len : Int) by omega), Bool.and_self, Int.toNat_natCast, rdn rg hat, dt (show g.getD at' 0 > 0 from c0), hfy, okSol, hcg, List.cons_append, List.nil_append, e1, AV.toB]
    · rw [iN c0]
      have hv0 := ((gridOk_iff g n).1 hg).2.2 _ (mem_getD hat)
      have h0 : g.getD at' 0 = 0 := by omega
      have loop : ∀ (j fuel : Nat) (v x : Int) (Hc : Hp) (cc : Nat) (sc : σ), v + j = n + 1 → 1 ≤ v → j < fuel → B <+: Hc → Bx Hc gb tb yb nb pb n gs ps ss f caps → Five cc gb tb yb nb pb → cc ≠ gs.blk → B.length ≤ cc → Own 1 B Hc gs ((g.set at' x).map (.int .i64)) → T cc (sc, true) Hc → Adv3 gs.blk b c H Hc → (cc = c ∨ H.length ≤ cc) →
          SolTo B b gs T c H g (runL step sc ((upto j v).flatMap fun v => if fitsV n given (rs.map R.val) (g.set at' v) = true then sols (fitsV n given (rs.map R.val)) n.toNat rem (g.set at' v) else [])) (impl_solutions_1.l0 (callF PP orc k) k fuel at' gb 0 yb 0 nb 0 pb 0 v Hc) := by
        intro j
        induction j with
        | zero =>
          intro fuel v x Hc cc sc hv hv1 hfu hBc hbc hcc5 hccd hccB hoc hTc hadv hcc
          obtain ⟨fuel, rfl⟩ : ∃ q, fuel = q + 1 := ⟨fuel - 1, by omega⟩
          obtain ⟨H1, a1, a2, a3, a4⟩ := own_set1 hoc hBc at' (by simpa using hat) 0
          have hgl1 := (own_reads hoc).len
          simp only [List.length_set] at hgl1
          rw [set_set, set_same g at' h0] at a3
          have hld : ldI .i64 Hc nb 0 = some n := by unfold ldI Hp.cell; rw [hbc.bn]; simp [AV.toI]
          have hl1 : H1.length = Hc.length := by
            have := own_sto hoc hBc at' [.int .i64 0] (by simp; omega)
            obtain ⟨H2, q1, q2, q3, q4, q5⟩ := this
            rw [Nat.mul_one] at a1
            rw [a1] at q1
            simp only [Option.some.injEq] at q1
            rw [q1]; exact q5
          refine ⟨H1, cc, g, ?_, a2, hadv.trans (adv_adv3 a4) (.inl rfl), a3, rfl, fun _ => rfl, tell.wr _ _ _ _ hTc a4.but hl1, hcc⟩
          simp only [upto, List.flatMap_nil, runL]
          simp (disch := omega) only [impl_solutions_1.l0, impl_solutions_1.j2, dt, df, bt, bf, nt, nf, Bool.and_self, Bool.not_true, Bool.not_false, cond_true, cond_false, Int.toNat_natCast, Int.toNat_zero, Int.toNat_one, Option.bind_some, wr, AV.toB, AV.toI, AV.toS, if_true, hld, box_sl hbc.bg, a1]
        | succ j ihj =>
          intro fuel v x Hc cc sc hv hv1 hfu hBc hbc hcc5 hccd hccB hoc hTc hadv hcc
          obtain ⟨fuel, rfl⟩ : ∃ q, fuel = q + 1 := ⟨fuel - 1, by omega⟩
          have hld : ldI .i64 Hc nb 0 = some n := by unfold ldI Hp.cell; rw [hbc.bn]; simp [AV.toI]
          have hgl1 := (own_reads hoc).len
          simp only [List.length_set] at hgl1
          obtain ⟨H1, a1, a2, a3, a4⟩ := own_set1 hoc hBc at' (by simpa using hat) v
          rw [set_set] at a3
          have hl1 : H1.length = Hc.length := by
            have := own_sto hoc hBc at' [.int .i64 v] (by simp; omega)
            obtain ⟨H2, q1, q2, q3, q4, q5⟩ := this
            rw [Nat.mul_one] at a1
            rw [a1] at q1
            simp only [Option.some.injEq] at q1
            rw [q1]; exact q5
          have hT1 := tell.wr _ _ _ _ hTc a4.but hl1
          have hb1 := hbc.adv (adv_adv3 (b := b) (c := cc) a4) hd5 hb5 hcc5
          have hg1 := grid_set hg at' v ⟨by omega, by omega⟩
          have r1 : ldI .i64 H1 pb 0 = some n := by unfold ldI Hp.cell; rw [hb1.bp]; simp [AV.toI]
          have r2 : ldS 1 H1 pb (0 + 1) = some ps := by unfold ldS Hp.cell; rw [hb1.bp]; simp [AV.toS]
          have r3 : ldS 3 H1 pb (0 + 1 + 1) = some ss := by unfold ldS Hp.cell; rw [hb1.bp]; simp [AV.toS]
          obtain ⟨H2, d1, d2⟩ := cellFits_ok (show 2000042 ≤ k by omega) (hzk H1 (fr_step hfr (hadv.trans (adv_adv3 (b := b) (c := cc) a4) hcc) hd0 hc0)) hro (own_reads a3) hg1 (at' := at') (by simpa using hat)
          rw [← fits_step hf hg hle hgiv hat h0 ⟨hv1, by omega⟩ hrv] at d1
          have hT2 := tell.pf _ _ _ _ hT1 d2
          have hb2 := hb1.adv (pf_adv3 (d := gs.blk) (b := b) (c := cc) d2) hd5 hb5 hcc5
          have hB2 := a2.trans d2
          have adv2 : Adv3 gs.blk b c H H2 := (hadv.trans (adv_adv3 (b := b) (c := cc) a4) hcc).trans (pf_adv3 (b := b) (c := cc) d2) hcc
          rw [upto, List.flatMap_cons, runL_app]
          cases cf : fitsV n given (rs.map R.val) (g.set at' v) with
          | true =>
            rw [cf] at d1
            rw [ip rfl]
            obtain ⟨H3, c3, g3, e1, e2, e3, e4, e5, e6, e7, e8⟩ := ih k (by omega) H2 (g.set at' v) cc sc (by simp; omega) hB2 hb2 hcc5 hccd hccB (own_pf a3 d2) hg1 (hle.trans (by
              refine ⟨by simp, fun i => ?_⟩
              rw [getD_set]
              by_cases e : at' = i
              · subst e; exact .inl h0
              · rw [if_neg (by omega)]; exact .inr rfl)) cf hT2 (fr_step hfr adv2 hd0 hc0) (by have := hfr.le; omega)
            rw [List.length_set, ← hnext] at e1
            have hc3 : c3 = c ∨ H.length ≤ c3 := by
              have := adv2.le
              rcases e8 with h | h
              · rw [h]; exact hcc
              · right; omega
            have adv3 := adv2.trans e3 hcc
            have hfy2 := box_fn hb2.bo
            cases hr : (runL step sc (sols (fitsV n given (rs.map R.val)) n.toNat rem (g.set at' v))).2 with
            | true =>
              rw [hr] at e1
              rw [ip rfl]
              have hg3 := e6 hr
              subst hg3
              have hc35 : Five c3 gb tb yb nb pb := by
                rcases e8 with h | h
                · rw [h]; exact hcc5
                · exact hb2.five h
              have hd3 := own_lt' (own_pf a3 d2)
              have hc3d : c3 ≠ gs.blk := by rcases e8 with h | h; rw [h]; exact hccd; omega
              have hc3B : B.length ≤ c3 := by have := hB2.length_le; rcases e8 with h | h; rw [h]; exact hccB; omega
              obtain ⟨H4, c4, g4, f1, f2⟩ := ihj fuel (v + 1) v H3 c3 _ (by omega) (by omega) (by omega) e2 (hb2.adv e3 hd5 hb5 hcc5) hc35 hc3d hc3B e4 (by have e7' := e7; rw [← hr]; exact e7') adv3 hc3
              refine ⟨H4, c4, g4, ?_, f2⟩
              simp (disch := omega) only [impl_solutions_1.l0, impl_solutions_1.j1, impl_solutions_1.j3, dt, Bool.and_self, Bool.not_true, cond_true, cond_false, Int.toNat_natCast, Option.bind_some, hld, box_sl hbc.bg, a1, r1, r2, r3, box_sl hb1.bg, d1, AV.toB, hfy2, okSol, hcg, List.cons_append, List.nil_append, e1, wr (n := v + 1), f1]
            | false =>
              rw [hr] at e1
              rw [iN (by simp)]
              refine ⟨H3, c3, g3, ?_, e2, adv3, e4, by simpa using e5, (fun h => by rw [hr] at h; cases h), e7, hc3⟩
              rw [hr]
              simp (disch := omega) only [impl_solutions_1.l0, impl_solutions_1.j1, impl_solutions_1.j3, dt, Bool.and_self, Bool.not_false, cond_true, cond_false, Int.toNat_natCast, Option.bind_some, hld, box_sl hbc.bg, a1, r1, r2, r3, box_sl hb1.bg, d1, AV.toB, hfy2, okSol, hcg, List.cons_append, List.nil_append, e1]
          | false =>
            rw [cf] at d1
            simp only [Bool.false_eq_true, if_false, runL, if_true]
            obtain ⟨H4, c4, g4, f1, f2⟩ := ihj fuel (v + 1) v H2 cc sc (by omega) (by omega) (by omega) hB2 hb2 hcc5 hccd hccB (own_pf a3 d2) hT2 adv2 hcc
            refine ⟨H4, c4, g4, ?_, f2⟩
            simp (disch := omega) only [impl_solutions_1.l0, impl_solutions_1.j1, impl_solutions_1.j3, dt, Bool.and_self, cond_true, cond_false, Int.toNat_natCast, Option.bind_some, hld, box_sl hbc.bg, a1, r1, r2, r3, box_sl hb1.bg, d1, AV.toB, wr (n := v + 1), f1]
      have hset : g.set at' 0 = g := set_same g at' h0
      obtain ⟨H4, c4, g4, f1, f2⟩ := loop n.toNat k 1 0 H c st (by omega) (by omega) (by omega) hB hbx hc5 hcd hcB (by rw [hset]; exact ho) hT (Adv3.refl _ _ _ _) (.inl rfl)
      refine ⟨H4, c4, g4, ?_, f2⟩
      simp only [impl_solutions_1.f, box_sl hbx.bg, Option.bind_some, bf (show (at' : Int) ≠ (gs.len : Int) by omega), cond_false, cond_true, dt (show (0 : Int) ≤ (at' : Int) by omega), dt (show (at' : Int) < (gs.len : Int) by omega), Bool.and_self, Int.toNat_natCast, rdn rg hat, df (show ¬ g.getD at' 0 > 0 from c0), f1]
end Go.Proofs.Ytjikkamhljbipaa.Rp
/- The first solution, the number of solutions: the model's side of the program. No conditions. -/
set_option linter.unusedVariables false
set_option linter.unusedSimpArgs false
namespace Go.Proofs.Ytjikkamhljbipaa.Rp
open Go Go.RowKit Go.Proofs.Ytjikkamhljbipaa.Ab

theorem readsL0 {B H : Hp} {t : Sl} {ls : List (List Int)} (h : ReadsL B H t ls) (hl : 0 < ls.length) : ∃ u, ldS 1 H t.blk (t.off + 0 * 1) = some u ∧ Own 1 B H u (ls[0].map (.int .i64)) := by
  obtain ⟨u, a, b⟩ := h.at' 0 hl
  refine ⟨u, ?_, b⟩
  unfold ldS
  rw [Nat.zero_mul, a]; simp [AV.toS]
/-- The first solution. -/
def firstV (n : Int) (given : List Int) (vs : List V) : Option (List Int) := (allSols n given vs).head?
theorem specSolveFirst_ok {k : Nat} (hk : 2000201 ≤ k) {H : Hp} {n : Int} {gs s : Sl} {given : List Int} {rs : List R} (hz : PuzAt H n gs s given rs) :
    ∃ t H', H <+: H' ∧ ((firstV n given (rs.map R.val) = none ∧ callF PP orc k spec_SolveFirst.id [.agg [.int .i64 n, .sl 1 gs, .sl 3 s]] H = some (.tup [.sl 1 t, .bool false], H') ∧ Own 1 H H' t (([] : List Int).map (.int .i64))) ∨
      (∃ x, firstV n given (rs.map R.val) = some x ∧ callF PP orc k spec_SolveFirst.id [.agg [.int .i64 n, .sl 1 gs, .sl 3 s]] H = some (.tup [.sl 1 t, .bool true], H') ∧ Own 1 H H' t (x.map (.int .i64)))) := by
  obtain ⟨k, rfl⟩ : ∃ q, k = q + 1 := ⟨k - 1, by omega⟩
  rw [spec_SolveFirst.call]
  obtain ⟨t, H1, a1, a2, a3⟩ := specl5All_ok (show 2000200 ≤ k by omega) hz (most := 1) (by omega) (by omega)
  have a1' : callF PP orc k spec_l5All.id [.agg [.int .i64 n, .sl 1 gs, .sl 3 s], .int .i64 1] H = some (.sl 1 t, H1) := a1
  have hl := a3.len
  unfold firstV
  generalize allSols n given (rs.map R.val) = L at *
  cases L with
  | nil =>
    simp at hl
    refine ⟨Sl.mk false H1.length 0 0, H1 ++ [some (Blk.mk false [])], a2.trans (List.prefix_append _ _), .inl ⟨rfl, ?_, own_base (own_new 1 H1 [] 0 rfl) a2⟩⟩
    simp (disch := omega) only [spec_SolveFirst.f, dt, df, bt, bf, nt, nf, Bool.and_self, Bool.not_true, Bool.not_false, cond_true, cond_false, Int.toNat_natCast, Int.toNat_zero, Int.toNat_one, Option.bind_some, wr, AV.toB, AV.toI, AV.toS, if_true, a1']
  | cons x L =>
    simp at hl
    obtain ⟨u, b1, b2⟩ := readsL0 a3 (by simp)
    refine ⟨u, H1, a2, .inr ⟨x, rfl, ?_, b2⟩⟩
    simp (disch := omega) only [spec_SolveFirst.f, dt, df, bt, bf, nt, nf, Bool.and_self, Bool.not_true, Bool.not_false, cond_true, cond_false, Int.toNat_natCast, Int.toNat_zero, Int.toNat_one, Option.bind_some, wr, AV.toB, AV.toI, AV.toS, if_true, a1', b1]
/-- A solution is a full grid. -/
theorem sols_grid {f : List Int → Bool} {n : Int} : ∀ (rem : Nat) (g : List Int), gridOk g n = true → rem ≤ g.length → ∀ x ∈ sols f n.toNat rem g, gridOk x n = true ∧ x.length = g.length
  | 0, g, hg, _, x, hx => by rw [sols] at hx; simp at hx; subst hx; exact ⟨hg, rfl⟩
  | rem + 1, g, hg, hr, x, hx => by
    rw [sols] at hx
    split at hx
    · exact sols_grid rem g hg (by omega) x hx
    · obtain ⟨v, hv, hx⟩ := List.mem_flatMap.1 hx
      split at hx
      · have hn := ((gridOk_iff g n).1 hg).1
        have hv' : ∀ (j : Nat) (w v : Int), v ∈ upto j w → w ≤ v ∧ v < w + j := by
          intro j
          induction j with
          | zero => intro w v h; cases h
          | succ j ih =>
            intro w v h
            rcases List.mem_cons.1 h with e | e
            · omega
            · have := ih _ _ e; omega
        have := hv' _ _ _ hv
        have h1 := sols_grid rem _ (grid_set hg _ v ⟨by omega, by omega⟩) (by simp; omega) x hx
        exact ⟨h1.1, h1.2.trans (by simp)⟩
      · cases hx
theorem first_grid {n : Int} {given : List Int} {vs : List V} {x : List Int} (h : firstV n given vs = some x) : gridOk x n = true ∧ x.length = given.length ∧ puzzleFitsV n given vs given = true := by
  unfold firstV allSols at h
  split at h
  · rename_i hf
    have hm := List.mem_of_mem_head? h
    have hf' := hf
    unfold puzzleFitsV at hf'
    simp only [Bool.and_eq_true] at hf'
    have := sols_grid _ _ hf'.2.1 (Nat.le_refl _) x hm
    exact ⟨this.1, this.2, hf⟩
  · cases h
end Go.Proofs.Ytjikkamhljbipaa.Rp
