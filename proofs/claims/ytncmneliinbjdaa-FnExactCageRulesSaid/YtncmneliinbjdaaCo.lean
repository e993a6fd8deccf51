/- Regions: valid, and their cells; both sides. No conditions. -/
import Derived.Test.YtncmneliinbjdaaCc
import Derived.Test.YtncmneliinbjdaaRqt
set_option linter.unusedVariables false
set_option linter.unusedSimpArgs false
namespace Go.Proofs.Ytncmneliinbjdaa.Rp
open Go Go.RowKit Go.Proofs.Ytncmneliinbjdaa.Ab

/-- Regions of a size. -/
def regsOk (l : List Int) (n : Int) : Bool := decide (2 ≤ n ∧ n ≤ 4) && decide ((l.length : Int) = n * n) && l.all fun v => decide (0 ≤ v) && decide (v < n)
theorem regsOk_iff (l : List Int) (n : Int) : regsOk l n = true ↔ (2 ≤ n ∧ n ≤ 4) ∧ (l.length : Int) = n * n ∧ ∀ v ∈ l, 0 ≤ v ∧ v < n := by
  simp [regsOk, and_assoc]

theorem implRegionsValid_l2 (rec : Rec) (k : Nat) {H : Hp} {s : Sl} {l : List Int} {m : Int} (hr : Reads .i64 H s l) (hl : l.length ≤ 1048576) :
    ∀ (j i n : Nat), i + j = l.length → j < n → impl_RegionsValid.l2 rec k n m s l.length i H = some (.bool ((l.drop i).all fun v => decide (0 ≤ v) && decide (v < m)), H) := by
  intro j
  induction j with
  | zero =>
    intro i n hi hn
    obtain ⟨n, rfl⟩ : ∃ m, n = m + 1 := ⟨n - 1, by omega⟩
    simp [impl_RegionsValid.l2, show ¬ i < l.length by omega, List.drop_eq_nil_of_le (show l.length ≤ i by omega)]
  | succ j ih =>
    intro i n hi hn
    obtain ⟨n, rfl⟩ : ∃ m, n = m + 1 := ⟨n - 1, by omega⟩
    have h1 := hr.len
    have h2 : i < l.length := by omega
    have h3 := reads_at hr i h2
    have h4 := wrs (i := i) (by omega)
    have h5 := ih (i + 1) n (by omega) (by omega)
    push_cast at h5
    rw [all_drop l i h2]
    by_cases c1 : l[i] < 0
    · simp [impl_RegionsValid.l2, impl_RegionsValid.j3, impl_RegionsValid.j4, h1, h2, h3, c1, show ¬ 0 ≤ l[i] by omega]
    · by_cases c2 : l[i] ≥ m
      · have c2' : m ≤ l[i] := c2
        simp [impl_RegionsValid.l2, impl_RegionsValid.j3, impl_RegionsValid.j4, h1, h2, h3, c1, c2', show ¬ l[i] < m by omega]
      · have c2' : ¬ m ≤ l[i] := c2
        simp [impl_RegionsValid.l2, impl_RegionsValid.j3, impl_RegionsValid.j4, h1, h2, h3, c1, c2', h4, h5, show 0 ≤ l[i] by omega, show l[i] < m by omega]

theorem implRegionsValid_ok {k : Nat} (hk : 2000000 ≤ k) {H : Hp} {s : Sl} {l : List Int} (hr : Reads .i64 H s l) (hl : l.length ≤ 1048576) (m : Int) :
    callF PP orc k impl_RegionsValid.id [.sl 1 s, .int .i64 m] H = some (.bool (regsOk l m), H) := by
  obtain ⟨k, rfl⟩ : ∃ m, k = m + 1 := ⟨k - 1, by omega⟩
  rw [impl_RegionsValid.call]
  have h1 := hr.len
  by_cases c : 2 ≤ m ∧ m ≤ 4
  · have h2 : IntKind.i64.wrap (m * m) = m * m := by
      have : m = 2 ∨ m = 3 ∨ m = 4 := by omega
      rcases this with rfl | rfl | rfl <;> exact wr (by decide) (by decide)
    have h3 := implRegionsValid_l2 (callF PP orc k) k (m := m) hr hl l.length 0 k (by omega) (by omega)
    by_cases c2 : (l.length : Int) = m * m
    · have : ((l.length : Int) != m * m) = false := by simp [c2]
      simp only [impl_RegionsValid.f, sizeOk_ok (show 1 ≤ k by omega), c, Option.bind_some, AV.toB, h1, h2, this, impl_RegionsValid.j0, impl_RegionsValid.j1]
      simpa [regsOk, c, c2] using h3
    · have : ((l.length : Int) != m * m) = true := by simp [c2]
      simp [impl_RegionsValid.f, sizeOk_ok (show 1 ≤ k by omega), c, AV.toB, h1, h2, this, impl_RegionsValid.j0, regsOk, c2]
  · simp [impl_RegionsValid.f, sizeOk_ok (show 1 ≤ k by omega), c, AV.toB, impl_RegionsValid.j0, regsOk]

theorem specRegionsValid_l0 {k : Nat} (hk : 1 ≤ k) {H : Hp} {s : Sl} {l : List Int} {m : Int} (hr : Reads .i64 H s l) (hl : l.length ≤ 1048576) :
    ∀ (j i n : Nat), i + j = l.length → j < n → spec_RegionsValid.l0 (callF PP orc k) k n s m i H = some (.bool (decide (2 ≤ m ∧ m ≤ 4) && decide ((l.length : Int) = m * m) && (l.drop i).all fun v => decide (0 ≤ v) && decide (v < m)), H) := by
  intro j
  induction j with
  | zero =>
    intro i n hi hn
    obtain ⟨n, rfl⟩ : ∃ m, n = m + 1 := ⟨n - 1, by omega⟩
    have h1 := hr.len
    by_cases c : 2 ≤ m ∧ m ≤ 4
    · have h2 : IntKind.i64.wrap (m * m) = m * m := by
        have : m = 2 ∨ m = 3 ∨ m = 4 := by omega
        rcases this with rfl | rfl | rfl <;> exact wr (by decide) (by decide)
      simp only [spec_RegionsValid.l0, h1, show ¬ ((i : Int) < (l.length : Int)) by omega, decide_false, cond_false, spec_RegionsValid.j1, l1In_ok hk, Option.bind_some, AV.toB, c, and_self, decide_true, cond_true, h2, List.drop_eq_nil_of_le (show l.length ≤ i by omega), List.all_nil, Bool.and_true, Bool.true_and]
      by_cases c2 : (l.length : Int) = m * m <;> simp [c2]
    · simp [spec_RegionsValid.l0, h1, show ¬ i < l.length by omega, spec_RegionsValid.j1, l1In_ok hk, AV.toB, c]
  | succ j ih =>
    intro i n hi hn
    obtain ⟨n, rfl⟩ : ∃ m, n = m + 1 := ⟨n - 1, by omega⟩
    have h1 := hr.len
    have h2 : i < l.length := by omega
    have h3 := reads_at hr i h2
    have h4 := wrs (i := i) (by omega)
    have h5 := ih (i + 1) n (by omega) (by omega)
    push_cast at h5
    rw [all_drop l i h2]
    by_cases c : 2 ≤ m ∧ m ≤ 4
    · have hw : IntKind.i64.wrap (m - 1) = m - 1 := wr (by omega) (by omega)
      by_cases c1 : 0 ≤ l[i] ∧ l[i] ≤ m - 1
      · have e1 : (decide (0 ≤ l[i]) && decide (l[i] < m)) = true := by simp; omega
        rw [e1, Bool.true_and]
        simp only [spec_RegionsValid.l0, h1, show ((i : Int) < (l.length : Int)) by omega, show (0 : Int) ≤ (i : Int) by omega, decide_true, Bool.and_self, cond_true, Int.toNat_natCast, Nat.mul_one, h3, Option.bind_some, hw, l1In_ok hk, AV.toB, c1, and_self, Bool.not_true, cond_false, h4, h5]
      · have e1 : (decide (0 ≤ l[i]) && decide (l[i] < m)) = false := by
          cases d : (decide (0 ≤ l[i]) && decide (l[i] < m)) with
          | false => rfl
          | true => simp at d; omega
        rw [e1, Bool.false_and, Bool.and_false]
        simp only [spec_RegionsValid.l0, h1, show ((i : Int) < (l.length : Int)) by omega, show (0 : Int) ≤ (i : Int) by omega, decide_true, Bool.and_self, cond_true, Int.toNat_natCast, Nat.mul_one, h3, Option.bind_some, hw, l1In_ok hk, AV.toB, c1, decide_false, Bool.not_false]
    · simp only [c, decide_false, Bool.false_and] at h5 ⊢
      by_cases c1 : 0 ≤ l[i] ∧ l[i] ≤ IntKind.i64.wrap (m - 1)
      · simp only [spec_RegionsValid.l0, h1, show ((i : Int) < (l.length : Int)) by omega, show (0 : Int) ≤ (i : Int) by omega, decide_true, Bool.and_self, cond_true, Int.toNat_natCast, Nat.mul_one, h3, Option.bind_some, l1In_ok hk, AV.toB, c1, and_self, Bool.not_true, cond_false, h4, h5]
      · simp only [spec_RegionsValid.l0, h1, show ((i : Int) < (l.length : Int)) by omega, show (0 : Int) ≤ (i : Int) by omega, decide_true, Bool.and_self, cond_true, Int.toNat_natCast, Nat.mul_one, h3, Option.bind_some, l1In_ok hk, AV.toB, c1, decide_false, Bool.not_false]

theorem specRegionsValid_ok {k : Nat} (hk : 2000000 ≤ k) {H : Hp} {s : Sl} {l : List Int} (hr : Reads .i64 H s l) (hl : l.length ≤ 1048576) (m : Int) :
    callF PP orc k spec_RegionsValid.id [.sl 1 s, .int .i64 m] H = some (.bool (regsOk l m), H) := by
  obtain ⟨k, rfl⟩ : ∃ m, k = m + 1 := ⟨k - 1, by omega⟩
  rw [spec_RegionsValid.call]
  have := specRegionsValid_l0 (k := k) (by omega) (m := m) hr hl l.length 0 k (by omega) (by omega)
  simpa [spec_RegionsValid.f, regsOk] using this

/-- The places of a number. -/
def idxFrom (r : Int) : List Int → Nat → List Int
  | [], _ => []
  | v :: vs, i => if v = r then (i : Int) :: idxFrom r vs (i + 1) else idxFrom r vs (i + 1)
def regCells (l : List Int) (r : Int) : List Int := idxFrom r l 0
theorem idx_drop (r : Int) (l : List Int) (i : Nat) (h : i < l.length) : idxFrom r (l.drop i) i = if l[i] = r then (i : Int) :: idxFrom r (l.drop (i + 1)) (i + 1) else idxFrom r (l.drop (i + 1)) (i + 1) := by
  rw [List.drop_eq_getElem_cons h]; rfl
theorem idx_mem (r : Int) : ∀ (l : List Int) (i : Nat), ∀ c ∈ idxFrom r l i, (i : Int) ≤ c ∧ c < (i : Int) + l.length
  | [], i, c, h => by simp [idxFrom] at h
  | v :: vs, i, c, h => by
    rw [idxFrom] at h
    simp only [List.length_cons]
    split at h
    · rcases List.mem_cons.1 h with rfl | h
      · omega
      · have := idx_mem r vs (i + 1) c h; omega
    · have := idx_mem r vs (i + 1) c h; omega
theorem idx_len (r : Int) : ∀ (l : List Int) (i : Nat), (idxFrom r l i).length ≤ l.length
  | [], i => by simp [idxFrom]
  | v :: vs, i => by
    have := idx_len r vs (i + 1)
    rw [idxFrom]
    split <;> simp <;> omega

theorem implRegionCells_l2 (rec : Rec) (k : Nat) {H0 : Hp} {s : Sl} {l : List Int} {r : Int} (hs : Reads .i64 H0 s l) (hl : l.length ≤ 1000) :
    ∀ (j i fuel : Nat) (H : Hp) (t : Sl) (a : List Int), i + j = l.length → j < fuel → H0 <+: H → a.length ≤ i → Own 1 H0 H t (a.map (.int .i64)) →
      ∃ t' H', impl_RegionCells.l2 rec k fuel r t s l.length i H = some (.sl 1 t', H') ∧ H0 <+: H' ∧ Own 1 H0 H' t' ((a ++ idxFrom r (l.drop i) i).map (.int .i64)) := by
  intro j
  induction j with
  | zero =>
    intro i fuel H t a hi hf hp ha ho
    obtain ⟨fuel, rfl⟩ : ∃ q, fuel = q + 1 := ⟨fuel - 1, by omega⟩
    refine ⟨t, H, ?_, hp, by rw [List.drop_eq_nil_of_le (by omega)]; simpa [idxFrom] using ho⟩
    simp [impl_RegionCells.l2, impl_RegionCells.j4, show ¬ i < l.length by omega]
  | succ j ih =>
    intro i fuel H t a hi hf hp ha ho
    obtain ⟨fuel, rfl⟩ : ∃ q, fuel = q + 1 := ⟨fuel - 1, by omega⟩
    have h1 := hs.len
    have h2 : i < l.length := by omega
    have h3 := reads_at (pf_reads hp hs) i h2
    have h4 := wrs (i := i) (by omega)
    have hlen : t.len = a.length := by have := ho.len; simpa using this
    have q0 : (0 : Int) ≤ (i : Int) := by omega
    have q1 : (i : Int) < (l.length : Int) := by omega
    rw [idx_drop r l i h2]
    by_cases c : l[i] = r
    · obtain ⟨H1, a1, a2, a3, _⟩ := own_app1 ho hp (i : Int) (by omega)
      obtain ⟨t', H', b1, b2, b3⟩ := ih (i + 1) fuel H1 _ (a ++ [(i : Int)]) (by omega) (by omega) a2 (by simp; omega) a3
      push_cast at b1
      have c' : (l[i] == r) = true := by simpa using c
      refine ⟨t', H', ?_, b2, by rw [if_pos c]; simpa using b3⟩
      simp only [impl_RegionCells.l2, impl_RegionCells.j3, h1, q0, q1, decide_true, Bool.and_self, cond_true, Int.toNat_natCast, Nat.mul_one, h3, Option.bind_some, c', a1, h4, b1]
    · obtain ⟨t', H', b1, b2, b3⟩ := ih (i + 1) fuel H t a (by omega) (by omega) hp (by omega) ho
      push_cast at b1
      have c' : (l[i] == r) = false := by simpa using c
      refine ⟨t', H', ?_, b2, by rw [if_neg c]; exact b3⟩
      simp only [impl_RegionCells.l2, impl_RegionCells.j3, h1, q0, q1, decide_true, Bool.and_self, cond_true, cond_false, Int.toNat_natCast, Nat.mul_one, h3, Option.bind_some, c', h4, b1]

theorem implRegionCells_ok {k : Nat} (hk : 2000001 ≤ k) {H : Hp} {s : Sl} {l : List Int} {n r : Int} (hs : Reads .i64 H s l) (hv : regsOk l n = true) (hr : 0 ≤ r ∧ r < n) :
    ∃ t H', callF PP orc k impl_RegionCells.id [.sl 1 s, .int .i64 n, .int .i64 r] H = some (.sl 1 t, H') ∧ H <+: H' ∧ Own 1 H H' t ((regCells l r).map (.int .i64)) := by
  obtain ⟨k, rfl⟩ : ∃ m, k = m + 1 := ⟨k - 1, by omega⟩
  rw [impl_RegionCells.call]
  obtain ⟨⟨n1, n2⟩, n3, n4⟩ := (regsOk_iff l n).1 hv
  have hl : l.length ≤ 16 := by
    have : n = 2 ∨ n = 3 ∨ n = 4 := by omega
    rcases this with rfl | rfl | rfl <;> omega
  obtain ⟨t, H', a1, a2, a3⟩ := implRegionCells_l2 (callF PP orc k) k (r := r) hs (by omega) l.length 0 k (H ++ [some (Blk.mk false [])]) (Sl.mk false H.length 0 0) [] (by omega) (by omega) (List.prefix_append _ _) (by simp) (own_new 1 H [] 0 rfl)
  have c1 : ¬ r < 0 := by omega
  have c2 : ¬ r ≥ n := by omega
  refine ⟨t, H', ?_, a2, by simpa [regCells] using a3⟩
  simp only [impl_RegionCells.f, impl_RegionCells.j0, impl_RegionCells.j1, implRegionsValid_ok (show 2000000 ≤ k by omega) hs (by omega), hv, Option.bind_some, AV.toB, Bool.not_true, cond_false, c1, c2, decide_false, hs.len]
  exact a1

theorem specRegionCells_l0 {k : Nat} (hk : 2000000 ≤ k) {H0 : Hp} {s : Sl} {l : List Int} {n r : Int} (hs : Reads .i64 H0 s l) (hl : l.length ≤ 1000) (hv : regsOk l n = true) :
    ∀ (j i fuel : Nat) (H : Hp) (t : Sl) (a : List Int), i + j = l.length → j < fuel → H0 <+: H → a.length ≤ i → Own 1 H0 H t (a.map (.int .i64)) →
      ∃ t' H', spec_RegionCells.l0 (callF PP orc k) k fuel s n r t i H = some (.sl 1 t', H') ∧ H0 <+: H' ∧ Own 1 H0 H' t' ((a ++ idxFrom r (l.drop i) i).map (.int .i64)) := by
  intro j
  induction j with
  | zero =>
    intro i fuel H t a hi hf hp ha ho
    obtain ⟨fuel, rfl⟩ : ∃ q, fuel = q + 1 := ⟨fuel - 1, by omega⟩
    refine ⟨t, H, ?_, hp, by rw [List.drop_eq_nil_of_le (by omega)]; simpa [idxFrom] using ho⟩
    simp [spec_RegionCells.l0, spec_RegionCells.j1, spec_RegionCells.j3, hs.len, show ¬ i < l.length by omega]
  | succ j ih =>
    intro i fuel H t a hi hf hp ha ho
    obtain ⟨fuel, rfl⟩ : ∃ q, fuel = q + 1 := ⟨fuel - 1, by omega⟩
    have h1 := hs.len
    have h2 : i < l.length := by omega
    have h3 := reads_at (pf_reads hp hs) i h2
    have h4 := wrs (i := i) (by omega)
    have hlen : t.len = a.length := by have := ho.len; simpa using this
    have q0 : (0 : Int) ≤ (i : Int) := by omega
    have q1 : (i : Int) < (l.length : Int) := by omega
    have hval := specRegionsValid_ok hk (pf_reads hp hs) (by omega) n
    rw [idx_drop r l i h2]
    by_cases c : l[i] = r
    · obtain ⟨H1, a1, a2, a3, _⟩ := own_app1 ho hp (i : Int) (by omega)
      obtain ⟨t', H', b1, b2, b3⟩ := ih (i + 1) fuel H1 _ (a ++ [(i : Int)]) (by omega) (by omega) a2 (by simp; omega) a3
      push_cast at b1
      have c' : (l[i] == r) = true := by simpa using c
      refine ⟨t', H', ?_, b2, by rw [if_pos c]; simpa using b3⟩
      simp only [spec_RegionCells.l0, spec_RegionCells.j1, spec_RegionCells.j2, spec_RegionCells.j4, hval, hv, AV.toB, h1, q0, q1, decide_true, Bool.and_self, cond_true, Int.toNat_natCast, Nat.mul_one, h3, Option.bind_some, c', a1, h4, b1]
    · obtain ⟨t', H', b1, b2, b3⟩ := ih (i + 1) fuel H t a (by omega) (by omega) hp (by omega) ho
      push_cast at b1
      have c' : (l[i] == r) = false := by simpa using c
      refine ⟨t', H', ?_, b2, by rw [if_neg c]; exact b3⟩
      simp only [spec_RegionCells.l0, spec_RegionCells.j1, spec_RegionCells.j2, spec_RegionCells.j4, hval, hv, AV.toB, h1, q0, q1, decide_true, Bool.and_self, cond_true, cond_false, Int.toNat_natCast, Nat.mul_one, h3, Option.bind_some, c', h4, b1]

theorem specRegionCells_ok {k : Nat} (hk : 2000001 ≤ k) {H : Hp} {s : Sl} {l : List Int} {n r : Int} (hs : Reads .i64 H s l) (hv : regsOk l n = true) :
    ∃ t H', callF PP orc k spec_RegionCells.id [.sl 1 s, .int .i64 n, .int .i64 r] H = some (.sl 1 t, H') ∧ H <+: H' ∧ Own 1 H H' t ((regCells l r).map (.int .i64)) := by
  obtain ⟨k, rfl⟩ : ∃ m, k = m + 1 := ⟨k - 1, by omega⟩
  rw [spec_RegionCells.call]
  obtain ⟨⟨n1, n2⟩, n3, n4⟩ := (regsOk_iff l n).1 hv
  have hl : l.length ≤ 16 := by
    have : n = 2 ∨ n = 3 ∨ n = 4 := by omega
    rcases this with rfl | rfl | rfl <;> omega
  obtain ⟨t, H', a1, a2, a3⟩ := specRegionCells_l0 (show 2000000 ≤ k by omega) (r := r) hs (by omega) hv l.length 0 k (H ++ [some (Blk.mk false [])]) (Sl.mk false H.length 0 0) [] (by omega) (by omega) (List.prefix_append _ _) (by simp) (own_new 1 H [] 0 rfl)
  exact ⟨t, H', a1, a2, by simpa [regCells] using a3⟩
end Go.Proofs.Ytncmneliinbjdaa.Rp
