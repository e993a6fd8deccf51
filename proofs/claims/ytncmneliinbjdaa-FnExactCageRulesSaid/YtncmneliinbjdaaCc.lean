/- What the functions on grids come to: sizes, valid grids, filled cells. No conditions. -/
import Derived.Test.YtncmneliinbjdaaCa
set_option linter.unusedVariables false
set_option linter.unusedSimpArgs false
namespace Go.Proofs.Ytncmneliinbjdaa.Rp
open Go Go.RowKit Go.Proofs.Ytncmneliinbjdaa.Ab

theorem dand (H : Hp) (a b : Prop) [Decidable a] [Decidable b] : (bif decide a then some (AV.bool (decide b), H) else some (AV.bool false, H)) = some (AV.bool (decide (a ∧ b)), H) := by
  by_cases a <;> by_cases b <;> simp [*]

theorem sizeOk_ok {k : Nat} (hk : 1 ≤ k) (n : Int) (H : Hp) : callF PP orc k impl_sizeOk.id [.int .i64 n] H = some (.bool (decide (2 ≤ n ∧ n ≤ 4)), H) := by
  obtain ⟨k, rfl⟩ : ∃ m, k = m + 1 := ⟨k - 1, by omega⟩
  rw [impl_sizeOk.call]
  exact dand H (n ≥ 2) (n ≤ 4)
theorem l1In_ok {k : Nat} (hk : 1 ≤ k) (n a b : Int) (H : Hp) : callF PP orc k spec_l1In.id [.int .i64 n, .int .i64 a, .int .i64 b] H = some (.bool (decide (a ≤ n ∧ n ≤ b)), H) := by
  obtain ⟨k, rfl⟩ : ∃ m, k = m + 1 := ⟨k - 1, by omega⟩
  rw [spec_l1In.call]
  exact dand H (n ≥ a) (n ≤ b)

/-- A grid of a size with values in 0..size. -/
def gridOk (l : List Int) (n : Int) : Bool := decide (2 ≤ n ∧ n ≤ 4) && decide ((l.length : Int) = n * n) && l.all fun v => decide (0 ≤ v) && decide (v ≤ n)
theorem gridOk_iff (l : List Int) (n : Int) : gridOk l n = true ↔ (2 ≤ n ∧ n ≤ 4) ∧ (l.length : Int) = n * n ∧ ∀ v ∈ l, 0 ≤ v ∧ v ≤ n := by
  simp [gridOk, and_assoc]
theorem gridOk_len {l : List Int} {n : Int} (h : gridOk l n = true) : l.length ≤ 16 := by
  obtain ⟨⟨h1, h2⟩, h3, _⟩ := (gridOk_iff l n).1 h
  have : n = 2 ∨ n = 3 ∨ n = 4 := by omega
  rcases this with rfl | rfl | rfl <;> omega

theorem all_drop {p : Int → Bool} (l : List Int) (i : Nat) (h : i < l.length) : (l.drop i).all p = (p l[i] && (l.drop (i + 1)).all p) := by
  rw [List.drop_eq_getElem_cons h]; rfl

theorem implGridValid_l2 (rec : Rec) (k : Nat) {H : Hp} {s : Sl} {l : List Int} {m : Int} (hr : Reads .i64 H s l) (hl : l.length ≤ 1048576) :
    ∀ (j i n : Nat), i + j = l.length → j < n → impl_GridValid.l2 rec k n m s l.length i H = some (.bool ((l.drop i).all fun v => decide (0 ≤ v) && decide (v ≤ m)), H) := by
  intro j
  induction j with
  | zero =>
    intro i n hi hn
    obtain ⟨n, rfl⟩ : ∃ m, n = m + 1 := ⟨n - 1, by omega⟩
    simp [impl_GridValid.l2, show ¬ i < l.length by omega, List.drop_eq_nil_of_le (show l.length ≤ i by omega)]
  | succ j ih =>
    intro i n hi hn
    obtain ⟨n, rfl⟩ : ∃ m, n = m + 1 := ⟨n - 1, by omega⟩
    have h1 := hr.len
    have h2 : i < l.length := by omega
    have h3 := reads_at hr i h2
    have h4 := wrs (i := i) (by omega)
    have h5 := ih (i + 1) n (by omega) (by omega)
    push_cast at h5
    rw [all_drop l i h2]
    by_cases c1 : l[i] < 0
    · simp [impl_GridValid.l2, impl_GridValid.j3, impl_GridValid.j4, h1, h2, h3, c1, show ¬ 0 ≤ l[i] by omega]
    · by_cases c2 : l[i] > m
      · simp [impl_GridValid.l2, impl_GridValid.j3, impl_GridValid.j4, h1, h2, h3, c1, c2, show ¬ l[i] ≤ m by omega]
      · simp [impl_GridValid.l2, impl_GridValid.j3, impl_GridValid.j4, h1, h2, h3, c1, c2, h4, h5, show 0 ≤ l[i] by omega, show l[i] ≤ m by omega]

theorem implGridValid_ok {k : Nat} (hk : 2000000 ≤ k) {H : Hp} {s : Sl} {l : List Int} (hr : Reads .i64 H s l) (hl : l.length ≤ 1048576) (m : Int) :
    callF PP orc k impl_GridValid.id [.sl 1 s, .int .i64 m] H = some (.bool (gridOk l m), H) := by
  obtain ⟨k, rfl⟩ : ∃ m, k = m + 1 := ⟨k - 1, by omega⟩
  rw [impl_GridValid.call]
  have h1 := hr.len
  by_cases c : 2 ≤ m ∧ m ≤ 4
  · have h2 : IntKind.i64.wrap (m * m) = m * m := by
      have : m = 2 ∨ m = 3 ∨ m = 4 := by omega
      rcases this with rfl | rfl | rfl <;> exact wr (by decide) (by decide)
    have h3 := implGridValid_l2 (callF PP orc k) k (m := m) hr hl l.length 0 k (by omega) (by omega)
    by_cases c2 : (l.length : Int) = m * m
    · have : ((l.length : Int) != m * m) = false := by simp [c2]
      simp only [impl_GridValid.f, sizeOk_ok (show 1 ≤ k by omega), c, Option.bind_some, AV.toB, h1, h2, this, impl_GridValid.j0, impl_GridValid.j1]
      simpa [gridOk, c, c2] using h3
    · have : ((l.length : Int) != m * m) = true := by simp [c2]
      simp [impl_GridValid.f, sizeOk_ok (show 1 ≤ k by omega), c, AV.toB, h1, h2, this, impl_GridValid.j0, gridOk, c2]
  · simp [impl_GridValid.f, sizeOk_ok (show 1 ≤ k by omega), c, AV.toB, impl_GridValid.j0, gridOk]

theorem specGridValid_l0 {k : Nat} (hk : 1 ≤ k) {H : Hp} {s : Sl} {l : List Int} {m : Int} (hr : Reads .i64 H s l) (hl : l.length ≤ 1048576) :
    ∀ (j i n : Nat), i + j = l.length → j < n → spec_GridValid.l0 (callF PP orc k) k n s m i H = some (.bool (decide (2 ≤ m ∧ m ≤ 4) && decide ((l.length : Int) = m * m) && (l.drop i).all fun v => decide (0 ≤ v) && decide (v ≤ m)), H) := by
  intro j
  induction j with
  | zero =>
    intro i n hi hn
    obtain ⟨n, rfl⟩ : ∃ m, n = m + 1 := ⟨n - 1, by omega⟩
    have h1 := hr.len
    by_cases c : 2 ≤ m ∧ m ≤ 4
    · have h2 : IntKind.i64.wrap (m * m) = m * m := by
        have : m = 2 ∨ m = 3 ∨ m = 4 := by omega
        rcases this with rfl | rfl | rfl <;> exact wr (by decide) (by decide)
      simp only [spec_GridValid.l0, h1, show ¬ ((i : Int) < (l.length : Int)) by omega, decide_false, cond_false, spec_GridValid.j1, l1In_ok hk, Option.bind_some, AV.toB, c, and_self, decide_true, cond_true, h2, List.drop_eq_nil_of_le (show l.length ≤ i by omega), List.all_nil, Bool.and_true, Bool.true_and]
      by_cases c2 : (l.length : Int) = m * m <;> simp [c2]
    · simp [spec_GridValid.l0, h1, show ¬ i < l.length by omega, spec_GridValid.j1, l1In_ok hk, AV.toB, c]
  | succ j ih =>
    intro i n hi hn
    obtain ⟨n, rfl⟩ : ∃ m, n = m + 1 := ⟨n - 1, by omega⟩
    have h1 := hr.len
    have h2 : i < l.length := by omega
    have h3 := reads_at hr i h2
    have h4 := wrs (i := i) (by omega)
    have h5 := ih (i + 1) n (by omega) (by omega)
    push_cast at h5
    rw [all_drop l i h2]
    by_cases c1 : 0 ≤ l[i] ∧ l[i] ≤ m
    · simp [spec_GridValid.l0, h1, h2, h3, l1In_ok hk, AV.toB, c1, h4, h5]
    · have : (decide (0 ≤ l[i]) && decide (l[i] ≤ m)) = false := by
        cases d : (decide (0 ≤ l[i]) && decide (l[i] ≤ m)) with
        | false => rfl
        | true => exact absurd (by simpa using d) c1
      simp [spec_GridValid.l0, h1, h2, h3, l1In_ok hk, AV.toB, c1, this]

theorem specGridValid_ok {k : Nat} (hk : 2000000 ≤ k) {H : Hp} {s : Sl} {l : List Int} (hr : Reads .i64 H s l) (hl : l.length ≤ 1048576) (m : Int) :
    callF PP orc k spec_GridValid.id [.sl 1 s, .int .i64 m] H = some (.bool (gridOk l m), H) := by
  obtain ⟨k, rfl⟩ : ∃ m, k = m + 1 := ⟨k - 1, by omega⟩
  rw [spec_GridValid.call]
  have := specGridValid_l0 (k := k) (by omega) (m := m) hr hl l.length 0 k (by omega) (by omega)
  simpa [spec_GridValid.f, gridOk] using this

/-- The cells that are not empty. -/
def filled (l : List Int) : Nat := l.countP fun v => decide (v > 0)
theorem count_drop {p : Int → Bool} (l : List Int) (i : Nat) (h : i < l.length) : (l.drop i).countP p = (l.drop (i + 1)).countP p + (if p l[i] = true then 1 else 0) := by
  rw [List.drop_eq_getElem_cons h, List.countP_cons]

theorem implGridFilled_l0 (rec : Rec) (k : Nat) {H : Hp} {s : Sl} {l : List Int} (hr : Reads .i64 H s l) (hl : l.length ≤ 1048576) :
    ∀ (j i n c : Nat), i + j = l.length → j < n → c ≤ i → impl_GridFilled.l0 rec k n c s l.length i H = some (.int .i64 ((c + (l.drop i).countP fun v => decide (v > 0) : Nat) : Int), H) := by
  intro j
  induction j with
  | zero =>
    intro i n c hi hn hc
    obtain ⟨n, rfl⟩ : ∃ m, n = m + 1 := ⟨n - 1, by omega⟩
    simp [impl_GridFilled.l0, impl_GridFilled.j2, show ¬ i < l.length by omega, List.drop_eq_nil_of_le (show l.length ≤ i by omega)]
  | succ j ih =>
    intro i n c hi hn hc
    obtain ⟨n, rfl⟩ : ∃ m, n = m + 1 := ⟨n - 1, by omega⟩
    have h1 := hr.len
    have h2 : i < l.length := by omega
    have h3 := reads_at hr i h2
    have h4 := wrs (i := i) (by omega)
    have h6 := wrs (i := c) (by omega)
    rw [count_drop l i h2]
    by_cases c1 : l[i] > 0
    · have h5 := ih (i + 1) n (c + 1) (by omega) (by omega) (by omega)
      push_cast at h5
      simp [impl_GridFilled.l0, impl_GridFilled.j1, h1, h2, h3, c1, h4, h6, h5]
      omega
    · have h5 := ih (i + 1) n c (by omega) (by omega) (by omega)
      push_cast at h5
      simp [impl_GridFilled.l0, impl_GridFilled.j1, h1, h2, h3, c1, h4, h5]

theorem implGridFilled_ok {k : Nat} (hk : 2000001 ≤ k) {H : Hp} {s : Sl} {l : List Int} (hr : Reads .i64 H s l) (hl : l.length ≤ 1048576) (m : Int) :
    callF PP orc k impl_GridFilled.id [.sl 1 s, .int .i64 m] H = some (.int .i64 (if gridOk l m = true then (filled l : Int) else -1), H) := by
  obtain ⟨k, rfl⟩ : ∃ m, k = m + 1 := ⟨k - 1, by omega⟩
  rw [impl_GridFilled.call]
  have h1 := hr.len
  have := implGridFilled_l0 (callF PP orc k) k hr hl l.length 0 k 0 (by omega) (by omega) (by omega)
  simp at this
  by_cases c : gridOk l m = true
  · simpa [impl_GridFilled.f, implGridValid_ok (show 2000000 ≤ k by omega) hr hl, AV.toB, c, h1, filled] using this
  · simp [impl_GridFilled.f, implGridValid_ok (show 2000000 ≤ k by omega) hr hl, AV.toB, c]

theorem specGridFilled_l0 (rec : Rec) (k : Nat) {H : Hp} {s : Sl} {l : List Int} (hr : Reads .i64 H s l) (hl : l.length ≤ 1048576) :
    ∀ (j i n c : Nat), i + j = l.length → j < n → c ≤ i → spec_GridFilled.l0 rec k n s c i H = some (.int .i64 ((c + (l.drop i).countP fun v => decide (v > 0) : Nat) : Int), H) := by
  intro j
  induction j with
  | zero =>
    intro i n c hi hn hc
    obtain ⟨n, rfl⟩ : ∃ m, n = m + 1 := ⟨n - 1, by omega⟩
    simp [spec_GridFilled.l0, spec_GridFilled.j2, hr.len, show ¬ i < l.length by omega, List.drop_eq_nil_of_le (show l.length ≤ i by omega)]
  | succ j ih =>
    intro i n c hi hn hc
    obtain ⟨n, rfl⟩ : ∃ m, n = m + 1 := ⟨n - 1, by omega⟩
    have h1 := hr.len
    have h2 : i < l.length := by omega
    have h3 := reads_at hr i h2
    have h4 := wrs (i := i) (by omega)
    have h6 := wrs (i := c) (by omega)
    rw [count_drop l i h2]
    by_cases c1 : l[i] > 0
    · have h5 := ih (i + 1) n (c + 1) (by omega) (by omega) (by omega)
      push_cast at h5
      simp [spec_GridFilled.l0, spec_GridFilled.j1, h1, h2, h3, c1, h4, h6, h5]
      omega
    · have h5 := ih (i + 1) n c (by omega) (by omega) (by omega)
      push_cast at h5
      simp [spec_GridFilled.l0, spec_GridFilled.j1, h1, h2, h3, c1, h4, h5]

theorem specGridFilled_ok {k : Nat} (hk : 2000001 ≤ k) {H : Hp} {s : Sl} {l : List Int} (hr : Reads .i64 H s l) (hl : l.length ≤ 1048576) (m : Int) :
    callF PP orc k spec_GridFilled.id [.sl 1 s, .int .i64 m] H = some (.int .i64 (if gridOk l m = true then (filled l : Int) else -1), H) := by
  obtain ⟨k, rfl⟩ : ∃ m, k = m + 1 := ⟨k - 1, by omega⟩
  rw [spec_GridFilled.call]
  have h1 := hr.len
  have := specGridFilled_l0 (callF PP orc k) k hr hl l.length 0 k 0 (by omega) (by omega) (by omega)
  simp at this
  by_cases c : gridOk l m = true
  · simpa [spec_GridFilled.f, specGridValid_ok (show 2000000 ≤ k by omega) hr hl, AV.toB, c, h1, filled] using this
  · simp [spec_GridFilled.f, specGridValid_ok (show 2000000 ≤ k by omega) hr hl, AV.toB, c]
end Go.Proofs.Ytncmneliinbjdaa.Rp
