/- Texts for the row of the law FnPuzzleValid, part 1: the plain machine, the program's functions on it, what they come to. No conditions. -/
import Derived.Test.YtjojhbdghhmeeaaBuFnPuzzleValid0
import Derived.Test.YtjojhbdghhmeeaaAb
import Derived.Test.YtjojhbdghhmeeaaOr
/- Masks: their values. No conditions. -/
set_option linter.unusedVariables false
set_option linter.unusedSimpArgs false
namespace Go.Proofs.Ytjojhbdghhmeeaa.Rp
open Go Go.RowKit Go.Proofs.Ytjojhbdghhmeeaa.Ab

def mbit (m : Int) (v : Nat) : Bool := (((m : Int).fdiv (2 ^ (min v IntKind.i64.bits)) : Int).tmod 2) == 1
def mvFrom (m : Int) : Nat → Nat → List Int
  | _, 0 => []
  | v, j + 1 => (if mbit m v = true then [(v : Int)] else []) ++ mvFrom m (v + 1) j
def maskVals (m : Int) : List Int := if (0 ≤ m ∧ m ≤ 30) ∧ m.tmod 2 = 0 then mvFrom m 1 4 else []
theorem mvFrom_mem (m : Int) : ∀ (j v : Nat), ∀ x ∈ mvFrom m v j, (v : Int) ≤ x ∧ x < (v : Int) + j
  | 0, v, x, h => by simp [mvFrom] at h
  | j + 1, v, x, h => by
    rw [mvFrom] at h
    rcases List.mem_append.1 h with h | h
    · split at h
      · simp at h; omega
      · simp at h
    · have := mvFrom_mem m j (v + 1) x h; omega
theorem maskVals_mem {m x : Int} (h : x ∈ maskVals m) : 1 ≤ x ∧ x ≤ 4 := by
  unfold maskVals at h
  split at h
  · have := mvFrom_mem m 4 1 x h; omega
  · simp at h

theorem MaskValues_l0 {k : Nat} (hk : 1 ≤ k) {H0 : Hp} {m : Int} (hm : (0 ≤ m ∧ m ≤ 30) ∧ m.tmod 2 = 0) :
    ∀ (j v fuel : Nat) (H : Hp) (t : Sl) (a : List Int), v + j = 5 → j < fuel → H0 <+: H → a.length ≤ 10 - j → j ≤ 5 → Own 1 H0 H t (a.map (.int .i64)) →
      ∃ t' H', spec_MaskValues.l0 (callF PP orc k) k fuel m t v H = some (.sl 1 t', H') ∧ H0 <+: H' ∧ Own 1 H0 H' t' ((a ++ mvFrom m v j).map (.int .i64)) := by
  intro j
  induction j with
  | zero =>
    intro v fuel H t a hv hf hp ha hj ho
    obtain ⟨fuel, rfl⟩ : ∃ q, fuel = q + 1 := ⟨fuel - 1, by omega⟩
    have : ¬ ((v : Int) ≤ 4) := by omega
    refine ⟨t, H, ?_, hp, by simpa [mvFrom] using ho⟩
    simp only [spec_MaskValues.l0, spec_MaskValues.j1, spec_MaskValues.j3, this, decide_false, cond_false]
  | succ j ih =>
    intro v fuel H t a hv hf hp ha hj ho
    obtain ⟨fuel, rfl⟩ : ∃ q, fuel = q + 1 := ⟨fuel - 1, by omega⟩
    have q1 : (v : Int) ≤ 4 := by omega
    have h4 := wrs (i := v) (by omega)
    have hlen : t.len = a.length := by have := ho.len; simpa using this
    have hz : ¬ ((v : Int) < 0) := by omega
    have he : (m.tmod 2 == 0) = true := by simpa using hm.2
    rw [mvFrom]
    cases hb : mbit m v with
    | true =>
      have hb' : (((m : Int).fdiv (2 ^ (min v IntKind.i64.bits)) : Int).tmod 2 == 1) = true := hb
      obtain ⟨H1, a1, a2, a3, _⟩ := own_app1 ho hp (v : Int) (by omega)
      obtain ⟨t', H', b1, b2, b3⟩ := ih (v + 1) fuel H1 _ (a ++ [(v : Int)]) (by omega) (by omega) a2 (by simp; omega) (by omega) a3
      push_cast at b1
      refine ⟨t', H', ?_, b2, by simpa using b3⟩
      simp only [spec_MaskValues.l0, spec_MaskValues.j1, spec_MaskValues.j2, spec_MaskValues.j4, q1, decide_true, cond_true, l1In_ok hk, hm.1, and_self, Option.bind_some, AV.toB, he, hz, if_false, Int.toNat_natCast, hb', a1, h4, b1]
    | false =>
      have hb' : (((m : Int).fdiv (2 ^ (min v IntKind.i64.bits)) : Int).tmod 2 == 1) = false := hb
      obtain ⟨t', H', b1, b2, b3⟩ := ih (v + 1) fuel H t a (by omega) (by omega) hp (by omega) (by omega) ho
      push_cast at b1
      refine ⟨t', H', ?_, b2, by simpa using b3⟩
      simp only [spec_MaskValues.l0, spec_MaskValues.j1, spec_MaskValues.j2, spec_MaskValues.j4, q1, decide_true, cond_true, cond_false, l1In_ok hk, hm.1, and_self, Option.bind_some, AV.toB, he, hz, if_false, Int.toNat_natCast, hb', h4, b1]

theorem MaskValues_ok {k : Nat} (hk : 2000000 ≤ k) (m : Int) (H : Hp) :
    ∃ t H', callF PP orc k spec_MaskValues.id [.int .i64 m] H = some (.sl 1 t, H') ∧ H <+: H' ∧ Own 1 H H' t ((maskVals m).map (.int .i64)) := by
  obtain ⟨k, rfl⟩ : ∃ q, k = q + 1 := ⟨k - 1, by omega⟩
  rw [spec_MaskValues.call]
  have hl1 := fun n a b H => l1In_ok (show 1 ≤ k by omega) n a b H
  by_cases c : (0 ≤ m ∧ m ≤ 30) ∧ m.tmod 2 = 0
  · obtain ⟨t, H', a1, a2, a3⟩ := MaskValues_l0 (k := k) (by omega) c 4 1 k (H ++ [some (Blk.mk false [])]) (Sl.mk false H.length 0 0) [] (by omega) (by omega) (List.prefix_append _ _) (by simp) (by omega) (own_new 1 H [] 0 rfl)
    refine ⟨t, H', a1, a2, ?_⟩
    unfold maskVals
    rw [if_pos c]
    simpa using a3
  · refine ⟨Sl.mk false H.length 0 0, H ++ [some (Blk.mk false [])], ?_, List.prefix_append _ _, by unfold maskVals; rw [if_neg c]; exact own_new 1 H [] 0 rfl⟩
    · obtain ⟨q, hq⟩ : ∃ q, k = q + 1 := ⟨k - 1, by omega⟩
      show spec_MaskValues.l0 (callF PP orc k) k k m (Sl.mk false H.length 0 0) 1 (H ++ [some (Blk.mk false [])]) = _
      generalize callF PP orc k = rc at *
      rw [hq]
      have q1 : (1 : Int) ≤ 4 := by decide
      by_cases c1 : 0 ≤ m ∧ m ≤ 30
      · have he : (m.tmod 2 == 0) = false := by
          cases d : (m.tmod 2 == 0) with
          | false => rfl
          | true => exact absurd ⟨c1, by simpa using d⟩ c
        simp only [spec_MaskValues.l0, spec_MaskValues.j1, spec_MaskValues.j3, q1, decide_true, cond_true, cond_false, hl1, c1, and_self, Option.bind_some, AV.toB, he]
      · simp only [spec_MaskValues.l0, spec_MaskValues.j1, spec_MaskValues.j3, q1, decide_true, decide_false, cond_true, cond_false, hl1, c1, Option.bind_some, AV.toB]
end Go.Proofs.Ytjojhbdghhmeeaa.Rp
/- Masks: valid. No conditions. -/
set_option linter.unusedVariables false
set_option linter.unusedSimpArgs false
namespace Go.Proofs.Ytjojhbdghhmeeaa.Rp
open Go Go.RowKit Go.Proofs.Ytjojhbdghhmeeaa.Ab

/-- The greatest mask of a size. -/
def topMask (n : Int) : Int := if n = 2 then 6 else if n = 3 then 14 else 30
def maskOk (n m : Int) : Bool := decide (0 ≤ m ∧ m ≤ topMask n) && (m.tmod 2 == 0)
theorem topMask_ok : ∀ n : Int, 2 ≤ n ∧ n ≤ 4 → ¬ (IntKind.i64.wrap ((IntKind.i64.wrap (((BitVec.ofInt IntKind.i64.bits n &&& BitVec.ofInt IntKind.i64.bits 7).toNat : Int))) + 1) < 0) ∧
    IntKind.i64.wrap ((IntKind.i64.wrap (1 * 2 ^ (min (IntKind.i64.wrap ((IntKind.i64.wrap (((BitVec.ofInt IntKind.i64.bits n &&& BitVec.ofInt IntKind.i64.bits 7).toNat : Int))) + 1) : Int).toNat IntKind.i64.bits))) - 2) = topMask n := by
  intro n hn
  have : n = 2 ∨ n = 3 ∨ n = 4 := by omega
  rcases this with rfl | rfl | rfl <;> exact ⟨by decide +kernel, by decide +kernel⟩

theorem MasksValid_l0 {k : Nat} (hk : 1 ≤ k) {n : Int} (hn : 2 ≤ n ∧ n ≤ 4) {H : Hp} {s : Sl} {l : List Int} (hs : Reads .i64 H s l) (hl : l.length ≤ 1000) :
    ∀ (j i fuel : Nat), i + j = l.length → j < fuel → spec_MasksValid.l0 (callF PP orc k) k fuel s n i H = some (.bool ((l.drop i).all (maskOk n) && decide ((l.length : Int) = n * n)), H) := by
  obtain ⟨t1, t2⟩ := topMask_ok n hn
  have hw : IntKind.i64.wrap (n * n) = n * n := by
    have : n = 2 ∨ n = 3 ∨ n = 4 := by omega
    rcases this with rfl | rfl | rfl <;> exact wr (by decide) (by decide)
  intro j
  induction j with
  | zero =>
    intro i fuel hi hf
    obtain ⟨fuel, rfl⟩ : ∃ q, fuel = q + 1 := ⟨fuel - 1, by omega⟩
    have : ¬ ((i : Int) < (l.length : Int)) := by omega
    have e : ((l.length : Int) == n * n) = decide ((l.length : Int) = n * n) := by rw [Bool.eq_iff_iff]; simp
    rw [List.drop_eq_nil_of_le (by omega)]
    simp only [spec_MasksValid.l0, spec_MasksValid.j2, this, decide_false, cond_false, List.all_nil, l1In_ok hk, hn, and_self, decide_true, Option.bind_some, AV.toB, cond_true, hs.len, hw, e, Bool.true_and]
  | succ j ih =>
    intro i fuel hi hf
    obtain ⟨fuel, rfl⟩ : ∃ q, fuel = q + 1 := ⟨fuel - 1, by omega⟩
    have h2 : i < l.length := by omega
    have h3 := reads_at hs i h2
    have h4 := wrs (i := i) (by omega)
    have h5 := ih (i + 1) fuel (by omega) (by omega)
    push_cast at h5
    have q0 : (0 : Int) ≤ (i : Int) := by omega
    have q2 : (i : Int) < (s.len : Int) := by rw [hs.len]; omega
    rw [List.drop_eq_getElem_cons h2, List.all_cons]
    unfold maskOk at h5 ⊢
    by_cases c1 : 0 ≤ l[i] ∧ l[i] ≤ topMask n
    · cases c2 : (l[i].tmod 2 == 0) with
      | true =>
        have c3 : (l[i].tmod 2 != 0) = false := by simp [bne, c2]
        simp only [spec_MasksValid.l0, spec_MasksValid.j1, spec_MasksValid.j3, q0, q2, decide_true, Bool.and_self, cond_true, cond_false, Int.toNat_natCast, Nat.mul_one, h3, Option.bind_some, t1, if_false, t2, l1In_ok hk, AV.toB, c1, and_self, Bool.not_true, c3, h4, h5, c2, Bool.true_and]
      | false =>
        have c3 : (l[i].tmod 2 != 0) = true := by simp [bne, c2]
        simp only [spec_MasksValid.l0, spec_MasksValid.j1, spec_MasksValid.j3, q0, q2, decide_true, Bool.and_self, cond_true, cond_false, Int.toNat_natCast, Nat.mul_one, h3, Option.bind_some, t1, if_false, t2, l1In_ok hk, AV.toB, c1, and_self, Bool.not_true, c3, c2, Bool.true_and, Bool.false_and]
    · simp only [spec_MasksValid.l0, spec_MasksValid.j1, spec_MasksValid.j3, q0, q2, decide_true, decide_false, Bool.and_self, cond_true, cond_false, Int.toNat_natCast, Nat.mul_one, h3, Option.bind_some, t1, if_false, t2, l1In_ok hk, AV.toB, c1, Bool.not_false, Bool.false_and]
theorem MasksValid_ok {k : Nat} (hk : 2000000 ≤ k) {n : Int} (hn : 2 ≤ n ∧ n ≤ 4) {H : Hp} {s : Sl} {l : List Int} (hs : Reads .i64 H s l) (hl : l.length ≤ 1000) :
    callF PP orc k spec_MasksValid.id [.sl 1 s, .int .i64 n] H = some (.bool (l.all (maskOk n) && decide ((l.length : Int) = n * n)), H) := by
  obtain ⟨k, rfl⟩ : ∃ q, k = q + 1 := ⟨k - 1, by omega⟩
  rw [spec_MasksValid.call]
  have := MasksValid_l0 (show 1 ≤ k by omega) hn hs hl l.length 0 k (by omega) (by omega)
  simpa [spec_MasksValid.f] using this
end Go.Proofs.Ytjojhbdghhmeeaa.Rp
/- The cells of a line, as the program makes them. No conditions. -/
set_option linter.unusedVariables false
set_option linter.unusedSimpArgs false
namespace Go.Proofs.Ytjojhbdghhmeeaa.Rp
open Go Go.RowKit Go.Proofs.Ytjojhbdghhmeeaa.Ab

def lineCell (n line : Int) (i : Nat) : Int := if line < n then line * n + (i : Int) else (i : Int) * n + line - n
def lineCells (n line : Int) : List Int := if (2 ≤ n ∧ n ≤ 4) ∧ 0 ≤ line ∧ line < 2 * n then (List.range n.toNat).map (lineCell n line) else []

theorem line_wraps {n line : Int} (hn : 2 ≤ n ∧ n ≤ 4) (hl : 0 ≤ line ∧ line < 2 * n) (i : Nat) (hi : (i : Int) < n) :
    IntKind.i64.wrap (IntKind.i64.wrap (line * n) + (i : Int)) = line * n + (i : Int) ∧ IntKind.i64.wrap (IntKind.i64.wrap (IntKind.i64.wrap ((i : Int) * n) + line) - n) = (i : Int) * n + line - n := by
  have : n = 2 ∨ n = 3 ∨ n = 4 := by omega
  rcases this with rfl | rfl | rfl
  all_goals
    constructor
    · rw [wr (n := line * _) (by omega) (by omega), wr (by omega) (by omega)]
    · rw [wr (n := (i : Int) * _) (by omega) (by omega), wr (n := (i : Int) * _ + line) (by omega) (by omega), wr (by omega) (by omega)]

theorem range_map_succ (f : Nat → Int) (i : Nat) : (List.range i).map f ++ [f i] = (List.range (i + 1)).map f := by
  rw [List.range_succ, List.map_append]; rfl

theorem implLineCells_l2 (rec : Rec) (k : Nat) {H0 : Hp} {n line : Int} {N : Nat} (hN : n = (N : Int)) (hn : 2 ≤ n ∧ n ≤ 4) (hl : 0 ≤ line ∧ line < 2 * n) :
    ∀ (j i m : Nat) (H : Hp) (t : Sl), i + j = N → j < m → H0 <+: H → Own 1 H0 H t (((List.range i).map (lineCell n line)).map (.int .i64)) →
      ∃ t' H', impl_LineCells.l2 rec k m n line t n i H = some (.sl 1 t', H') ∧ H0 <+: H' ∧ Own 1 H0 H' t' (((List.range N).map (lineCell n line)).map (.int .i64)) := by
  intro j
  induction j with
  | zero =>
    intro i m H t hi hm hp ho
    obtain ⟨m, rfl⟩ : ∃ q, m = q + 1 := ⟨m - 1, by omega⟩
    have : i = N := by omega
    subst this
    exact ⟨t, H, by simp [impl_LineCells.l2, impl_LineCells.j4, hN], hp, ho⟩
  | succ j ih =>
    intro i m H t hi hm hp ho
    obtain ⟨m, rfl⟩ : ∃ q, m = q + 1 := ⟨m - 1, by omega⟩
    have hi2 : (i : Int) < n := by omega
    have hlen : t.len = i := by have := ho.len; simpa using this
    obtain ⟨w1, w2⟩ := line_wraps hn hl i hi2
    have h4 := wrs (i := i) (by omega)
    obtain ⟨H', a1, a2, a3, a4, a5⟩ := own_app1 ho hp (lineCell n line i) (by omega)
    rw [range_map_succ] at a3
    obtain ⟨t', H2, b1, b2, b3⟩ := ih (i + 1) m H' _ (by omega) (by omega) a2 a3
    refine ⟨t', H2, ?_, b2, b3⟩
    push_cast at b1
    unfold lineCell at a1
    by_cases c : line < n
    · rw [if_pos c] at a1
      simp only [impl_LineCells.l2, impl_LineCells.j3, hi2, c, decide_true, cond_true, w1, a1, Option.bind_some, h4, b1]
    · rw [if_neg c] at a1
      simp only [impl_LineCells.l2, impl_LineCells.j3, hi2, c, decide_true, decide_false, cond_true, cond_false, w2, a1, Option.bind_some, h4, b1]

theorem implLineCells_ok {k : Nat} (hk : 2000000 ≤ k) (n line : Int) (H : Hp) :
    ∃ t H', callF PP orc k impl_LineCells.id [.int .i64 n, .int .i64 line] H = some (.sl 1 t, H') ∧ H <+: H' ∧ Reads .i64 H' t (lineCells n line) := by
  obtain ⟨k, rfl⟩ : ∃ m, k = m + 1 := ⟨k - 1, by omega⟩
  rw [impl_LineCells.call]
  unfold lineCells
  by_cases c : 2 ≤ n ∧ n ≤ 4
  · have hw : IntKind.i64.wrap (2 * n) = 2 * n := wr (by omega) (by omega)
    by_cases c1 : line < 0
    · exact ⟨Sl.none, H, by simp [impl_LineCells.f, sizeOk_ok (show 1 ≤ k by omega), c, AV.toB, c1, impl_LineCells.j0], List.prefix_refl _, by rw [if_neg (by omega)]; exact reads_nil rfl⟩
    · by_cases c2 : line < 2 * n
      · obtain ⟨N, hN⟩ := Int.eq_ofNat_of_zero_le (show 0 ≤ n by omega)
        obtain ⟨t', H2, b1, b2, b3⟩ := implLineCells_l2 (callF PP orc k) k hN c ⟨by omega, c2⟩ N 0 k (H ++ [some (Blk.mk false [])]) (Sl.mk false H.length 0 0) (by omega) (by omega) (List.prefix_append _ _) (own_new 1 H [] 0 rfl)
        refine ⟨t', H2, ?_, b2, ?_⟩
        · have c3 : ¬ 2 * n ≤ line := by omega
          simp only [impl_LineCells.f, sizeOk_ok (show 1 ≤ k by omega), c, AV.toB, c1, impl_LineCells.j0, impl_LineCells.j1, hw, Option.bind_some]
          rw [show decide (line ≥ 2 * n) = false by simp; omega]
          simp only [and_self, decide_true, Bool.not_true, cond_false, decide_false]
          rw [if_pos (by omega)]
          simpa using b1
        · rw [if_pos ⟨c, by omega, c2⟩, show n.toNat = N by omega]
          exact own_reads b3
      · refine ⟨Sl.none, H, ?_, List.prefix_refl _, by rw [if_neg (by omega)]; exact reads_nil rfl⟩
        have : decide (line ≥ 2 * n) = true := by simp; omega
        simp only [impl_LineCells.f, sizeOk_ok (show 1 ≤ k by omega), c, AV.toB, c1, impl_LineCells.j0, hw, this, Option.bind_some, and_self, decide_true, Bool.not_true, cond_false, decide_false, cond_true]
  · exact ⟨Sl.none, H, by simp [impl_LineCells.f, sizeOk_ok (show 1 ≤ k by omega), c, AV.toB, impl_LineCells.j0], List.prefix_refl _, by rw [if_neg (by omega)]; exact reads_nil rfl⟩

theorem specLineCells_l0 {k : Nat} (hk : 1 ≤ k) {H0 : Hp} {n line : Int} {N : Nat} (hN : n = (N : Int)) (hn : 2 ≤ n ∧ n ≤ 4) (hl : 0 ≤ line ∧ line < 2 * n) :
    ∀ (j i m : Nat) (H : Hp) (t : Sl), i + j = N → j < m → H0 <+: H → Own 1 H0 H t (((List.range i).map (lineCell n line)).map (.int .i64)) →
      ∃ t' H', spec_LineCells.l0 (callF PP orc k) k m n line t i H = some (.sl 1 t', H') ∧ H0 <+: H' ∧ Own 1 H0 H' t' (((List.range N).map (lineCell n line)).map (.int .i64)) := by
  intro j
  induction j with
  | zero =>
    intro i m H t hi hm hp ho
    obtain ⟨m, rfl⟩ : ∃ q, m = q + 1 := ⟨m - 1, by omega⟩
    have : i = N := by omega
    subst this
    exact ⟨t, H, by simp [spec_LineCells.l0, spec_LineCells.j1, spec_LineCells.j3, hN], hp, ho⟩
  | succ j ih =>
    intro i m H t hi hm hp ho
    obtain ⟨m, rfl⟩ : ∃ q, m = q + 1 := ⟨m - 1, by omega⟩
    have hi2 : (i : Int) < n := by omega
    have hlen : t.len = i := by have := ho.len; simpa using this
    obtain ⟨w1, w2⟩ := line_wraps hn hl i hi2
    have h4 := wrs (i := i) (by omega)
    have hw : IntKind.i64.wrap (2 * n) = 2 * n := wr (by omega) (by omega)
    have hw2 : IntKind.i64.wrap (2 * n - 1) = 2 * n - 1 := wr (by omega) (by omega)
    have c3 : 0 ≤ line ∧ line ≤ 2 * n - 1 := by omega
    obtain ⟨H', a1, a2, a3, a4, a5⟩ := own_app1 ho hp (lineCell n line i) (by omega)
    rw [range_map_succ] at a3
    obtain ⟨t', H2, b1, b2, b3⟩ := ih (i + 1) m H' _ (by omega) (by omega) a2 a3
    refine ⟨t', H2, ?_, b2, b3⟩
    push_cast at b1
    unfold lineCell at a1
    by_cases c : line < n
    · rw [if_pos c] at a1
      simp only [spec_LineCells.l0, spec_LineCells.j1, spec_LineCells.j2, spec_LineCells.j4, l1In_ok hk, AV.toB, hn, hw, hw2, c3, and_self, hi2, c, decide_true, cond_true, w1, a1, Option.bind_some, h4, b1]
    · rw [if_neg c] at a1
      simp only [spec_LineCells.l0, spec_LineCells.j1, spec_LineCells.j2, spec_LineCells.j4, l1In_ok hk, AV.toB, hn, hw, hw2, c3, and_self, hi2, c, decide_true, decide_false, cond_true, cond_false, w2, a1, Option.bind_some, h4, b1]

theorem specLineCells_ok {k : Nat} (hk : 2000000 ≤ k) (n line : Int) (H : Hp) :
    ∃ t H', callF PP orc k spec_LineCells.id [.int .i64 n, .int .i64 line] H = some (.sl 1 t, H') ∧ H <+: H' ∧ Reads .i64 H' t (lineCells n line) := by
  obtain ⟨k, rfl⟩ : ∃ m, k = m + 1 := ⟨k - 1, by omega⟩
  rw [spec_LineCells.call]
  have none' : (∃ m, k = m + 1) → ¬ ((2 ≤ n ∧ n ≤ 4) ∧ 0 ≤ line ∧ line < 2 * n) → spec_LineCells.l0 (callF PP orc k) k k n line (Sl.mk false H.length 0 0) 0 (H ++ [some (Blk.mk false [])]) = some (.sl 1 (Sl.mk false H.length 0 0), H ++ [some (Blk.mk false [])]) := by
    rintro ⟨m, hm⟩ hc
    have hl1 := fun n a b H => l1In_ok (show 1 ≤ k by omega) n a b H
    by_cases c0 : 0 < n
    · by_cases c : 2 ≤ n ∧ n ≤ 4
      · have hw : IntKind.i64.wrap (2 * n) = 2 * n := wr (by omega) (by omega)
        have hw2 : IntKind.i64.wrap (2 * n - 1) = 2 * n - 1 := wr (by omega) (by omega)
        have c3 : decide (0 ≤ line ∧ line ≤ 2 * n - 1) = false := by simp; omega
        generalize callF PP orc k = rc at *
        rw [hm]
        simp only [spec_LineCells.l0, spec_LineCells.j1, spec_LineCells.j3, hl1, AV.toB, c, hw, hw2, c3, c0, and_self, decide_true, cond_true, Option.bind_some, cond_false]
      · generalize callF PP orc k = rc at *
        rw [hm]
        simp only [spec_LineCells.l0, spec_LineCells.j1, spec_LineCells.j3, hl1, AV.toB, c, c0, decide_true, decide_false, cond_true, Option.bind_some, cond_false]
    · generalize callF PP orc k = rc at *
      rw [hm]
      simp only [spec_LineCells.l0, spec_LineCells.j1, spec_LineCells.j3, c0, decide_false, cond_false]
  by_cases c : (2 ≤ n ∧ n ≤ 4) ∧ 0 ≤ line ∧ line < 2 * n
  · obtain ⟨N, hN⟩ := Int.eq_ofNat_of_zero_le (show 0 ≤ n by omega)
    obtain ⟨t', H2, b1, b2, b3⟩ := specLineCells_l0 (k := k) (by omega) hN c.1 c.2 N 0 k (H ++ [some (Blk.mk false [])]) (Sl.mk false H.length 0 0) (by omega) (by omega) (List.prefix_append _ _) (own_new 1 H [] 0 rfl)
    refine ⟨t', H2, by simpa [spec_LineCells.f] using b1, b2, ?_⟩
    unfold lineCells
    rw [if_pos c, show n.toNat = N by omega]
    exact own_reads b3
  · refine ⟨_, _, (show spec_LineCells.f _ _ _ _ _ = _ from none' ⟨k - 1, by omega⟩ c), List.prefix_append _ _, ?_⟩
    unfold lineCells
    rw [if_neg c]
    exact reads_nil rfl
end Go.Proofs.Ytjojhbdghhmeeaa.Rp
/- Squares: whether a value stands twice in a line; both sides say the same. No conditions. -/
set_option linter.unusedVariables false
set_option linter.unusedSimpArgs false
namespace Go.Proofs.Ytjojhbdghhmeeaa.Rp
open Go Go.RowKit Go.Proofs.Ytjojhbdghhmeeaa.Ab

/-- The value of a cell. -/
def gv (g : List Int) (c : Int) : Int := g.getD c.toNat 0
def clashL (g : List Int) : List Int → List Int → Bool
  | [], _ => false
  | c :: cs, seen => (decide (0 < gv g c) && seen.contains (gv g c)) || clashL g cs (gv g c :: seen)
def clashFrom (g : List Int) (n : Int) : Nat → Nat → Bool
  | _, 0 => false
  | line, j + 1 => clashL g (lineCells n line) [] || clashFrom g n (line + 1) j
def clash (g : List Int) (n : Int) : Bool := clashFrom g n 0 (2 * n).toNat
def squareFits (g : List Int) (n : Int) : Bool := gridOk g n && !clash g n
def squareSolved (g : List Int) (n : Int) : Bool := squareFits g n && decide ((filled g : Int) = n * n)

theorem lineCells_mem {n line c : Int} (h : c ∈ lineCells n line) : 0 ≤ c ∧ c < n * n := by
  unfold lineCells at h
  split at h
  · rename_i hc
    obtain ⟨i, hi, rfl⟩ := List.mem_map.1 h
    have hi' := List.mem_range.1 hi
    have : n = 2 ∨ n = 3 ∨ n = 4 := by omega
    unfold lineCell
    rcases this with rfl | rfl | rfl <;> split <;> omega
  · simp at h
theorem lineCells_len (n line : Int) : (lineCells n line).length ≤ 4 := by
  unfold lineCells
  split
  · simp; omega
  · simp
theorem gv_at {H : Hp} {s : Sl} {g : List Int} (hr : Reads .i64 H s g) {c : Int} (h0 : 0 ≤ c) (h1 : c < (g.length : Int)) : ldI .i64 H s.blk (s.off + c.toNat) = some (gv g c) := by
  have h2 : c.toNat < g.length := by omega
  rw [reads_at hr c.toNat h2]
  simp [gv, List.getD_eq_getElem?_getD, h2]
theorem gv_mem {g : List Int} {c : Int} (h0 : 0 ≤ c) (h1 : c < (g.length : Int)) : gv g c ∈ g := by
  have h2 : c.toNat < g.length := by omega
  unfold gv
  rw [List.getD_eq_getElem?_getD, List.getElem?_eq_getElem h2]
  exact List.getElem_mem h2

theorem mask_or : ∀ m, m < 32 → ∀ v, v < 5 → IntKind.i64.wrap (((BitVec.ofInt IntKind.i64.bits ((m : Nat) : Int) ||| BitVec.ofInt IntKind.i64.bits (IntKind.i64.wrap (1 * 2 ^ (min v IntKind.i64.bits)))).toNat : Int)) = ((m ||| 2 ^ v : Nat) : Int) ∧ m ||| 2 ^ v < 32 := by decide +kernel
theorem mask_bit : ∀ m, m < 32 → ∀ v, v < 5 → (((((m : Nat) : Int).fdiv (2 ^ (min v IntKind.i64.bits)) : Int).tmod 2) == 1) = m.testBit v := by decide +kernel
theorem mask_test : ∀ m, m < 32 → ∀ v, v < 5 → ∀ w, w < 5 → (m ||| 2 ^ v).testBit w = (decide (w = v) || m.testBit w) := by decide +kernel

theorem specl2Clash_l1 (rec : Rec) (k : Nat) (L0 : Sl → Int → Int → Hp → An) {H : Hp} {s t : Sl} {g cells : List Int} {n line : Int} (hs : Reads .i64 H s g) (ht : Reads .i64 H t cells)
    (hc : ∀ c ∈ cells, 0 ≤ c ∧ c < (g.length : Int)) (hg : ∀ v ∈ g, 0 ≤ v ∧ v ≤ 4) (hl : cells.length ≤ 1000) (hline : IntKind.i64.wrap (line + 1) = line + 1) :
    ∀ (j i fuel m : Nat) (seen : List Int), i + j = cells.length → j < fuel → m < 32 → (∀ v : Nat, v < 5 → m.testBit v = seen.contains (v : Int)) →
      spec_l2Clash.l1 rec k L0 fuel s n line t m i H = bif clashL g (cells.drop i) seen then some (.bool true, H) else L0 s n (line + 1) H := by
  intro j
  induction j with
  | zero =>
    intro i fuel m seen hi hf hm hse
    obtain ⟨fuel, rfl⟩ : ∃ q, fuel = q + 1 := ⟨fuel - 1, by omega⟩
    simp [spec_l2Clash.l1, spec_l2Clash.j3, ht.len, show ¬ i < cells.length by omega, List.drop_eq_nil_of_le (show cells.length ≤ i by omega), clashL, hline]
  | succ j ih =>
    intro i fuel m seen hi hf hm hse
    obtain ⟨fuel, rfl⟩ : ∃ q, fuel = q + 1 := ⟨fuel - 1, by omega⟩
    have h1 := ht.len
    have h2 : i < cells.length := by omega
    have h3 := reads_at ht i h2
    have h4 := wrs (i := i) (by omega)
    obtain ⟨c0, c1⟩ := hc _ (List.getElem_mem h2)
    have h5 := gv_at hs c0 c1
    obtain ⟨v0, v1⟩ := hg _ (gv_mem c0 c1)
    rw [List.drop_eq_getElem_cons h2]
    simp only [clashL]
    obtain ⟨v, hv⟩ := Int.eq_ofNat_of_zero_le v0
    rw [hv] at h5 ⊢
    have hv5 : v < 5 := by omega
    obtain ⟨o1, o2⟩ := mask_or m hm v hv5
    have hb := mask_bit m hm v hv5
    rw [hse v hv5] at hb
    have hsl := hs.len
    have h6 := ih (i + 1) fuel (m ||| 2 ^ v) ((v : Int) :: seen) (by omega) (by omega) o2 (fun w hw => by
      rw [mask_test m hm v hv5 w hw, hse w hw, List.contains_cons]
      congr 1
      simp only [Bool.beq_eq_decide_eq]
      exact decide_eq_decide.2 (by omega))
    have q1 : ((i : Int) < (t.len : Int)) := by omega
    have q0 : (0 : Int) ≤ (i : Int) := by omega
    have z0 : ¬ ((v : Int) < 0) := by omega
    have c1' : cells[i] < (s.len : Int) := by omega
    rw [show ((i : Int) + 1) = ((i + 1 : Nat) : Int) by omega] at h4
    by_cases hp : 0 < v
    · have z1 : ((v : Int) > 0) := by omega
      have z2 : (0 : Int) < (v : Int) := z1
      cases hse' : seen.contains (v : Int) with
      | true =>
        rw [hse'] at hb
        simp only [spec_l2Clash.l1, spec_l2Clash.j2, spec_l2Clash.j4, spec_l2Clash.j5, q0, q1, c0, c1', z0, z1, z2, decide_true, Bool.and_self, cond_true, cond_false, Int.toNat_natCast, Nat.mul_one, h3, h5, Option.bind_some, hb, if_false, reduceIte, Bool.true_or]
      | false =>
        rw [hse'] at hb
        rw [show ((i + 1 : Nat) : Int) = (i : Int) + 1 by omega] at h4 h6
        simp only [spec_l2Clash.l1, spec_l2Clash.j2, spec_l2Clash.j4, spec_l2Clash.j5, q0, q1, c0, c1', z0, z1, z2, decide_true, Bool.and_self, Bool.and_false, cond_true, cond_false, Int.toNat_natCast, Nat.mul_one, h3, h5, Option.bind_some, hb, if_false, reduceIte, Bool.false_or, o1, h4, h6]
    · have z1 : ¬ ((v : Int) > 0) := by omega
      have z2 : ¬ (0 : Int) < (v : Int) := z1
      rw [show ((i + 1 : Nat) : Int) = (i : Int) + 1 by omega] at h4 h6
      simp only [spec_l2Clash.l1, spec_l2Clash.j2, spec_l2Clash.j4, spec_l2Clash.j5, q0, q1, c0, c1', z0, z1, z2, decide_true, decide_false, Bool.and_self, Bool.false_and, cond_true, cond_false, Int.toNat_natCast, Nat.mul_one, h3, h5, Option.bind_some, if_false, reduceIte, Bool.false_or, o1, h4, h6]

theorem specl2Clash_l0 {k : Nat} (hk : 2000000 ≤ k) {H0 : Hp} {s : Sl} {g : List Int} {n : Int} (hs : Reads .i64 H0 s g) (hg : gridOk g n = true) :
    ∀ (j fuel line : Nat) (H : Hp), (line : Int) + j = 2 * n → j < fuel → H0 <+: H →
      ∃ H', spec_l2Clash.l0 (callF PP orc k) k fuel s n line H = some (.bool (clashFrom g n line j), H') ∧ H0 <+: H' := by
  obtain ⟨⟨n1, n2⟩, n3, n4⟩ := (gridOk_iff g n).1 hg
  have hw : IntKind.i64.wrap (2 * n) = 2 * n := wr (by omega) (by omega)
  intro j
  induction j with
  | zero =>
    intro fuel line H hl hf hp
    obtain ⟨fuel, rfl⟩ : ∃ q, fuel = q + 1 := ⟨fuel - 1, by omega⟩
    refine ⟨H, ?_, hp⟩
    have : ¬ ((line : Int) < 2 * n) := by omega
    simp only [spec_l2Clash.l0, hw, this, decide_false, cond_false, clashFrom]
  | succ j ih =>
    intro fuel line H hl hf hp
    obtain ⟨fuel, rfl⟩ : ∃ q, fuel = q + 1 := ⟨fuel - 1, by omega⟩
    have q1 : ((line : Int) < 2 * n) := by omega
    obtain ⟨t, H1, a1, a2, a3⟩ := specLineCells_ok hk n line H
    have h1 := specl2Clash_l1 (callF PP orc k) k (spec_l2Clash.l0 (callF PP orc k) k fuel) (line := line) (n := n) (pf_reads (hp.trans a2) hs) a3 (fun c hc => by rw [n3]; exact lineCells_mem hc) (fun v hv => ⟨(n4 v hv).1, by have := (n4 v hv).2; omega⟩)
      (by have := lineCells_len n line; omega) (wr (by omega) (by omega)) (lineCells n line).length 0 k 0 [] (by omega) (by have := lineCells_len n line; omega) (by omega) (fun v hv => by simp)
    obtain ⟨H', b1, b2⟩ := ih fuel (line + 1) H1 (by omega) (by omega) (hp.trans a2)
    push_cast at b1
    simp only [List.drop_zero] at h1
    cases hc : clashL g (lineCells n line) [] with
    | true =>
      refine ⟨H1, ?_, hp.trans a2⟩
      simp only [hc, cond_true] at h1
      simp only [spec_l2Clash.l0, hw, q1, decide_true, cond_true, a1, Option.bind_some, AV.toS, if_true, clashFrom, hc, Bool.true_or]
      exact h1
    | false =>
      refine ⟨H', ?_, b2⟩
      simp only [hc, cond_false] at h1
      simp only [spec_l2Clash.l0, hw, q1, decide_true, cond_true, a1, Option.bind_some, AV.toS, if_true, clashFrom, hc, Bool.false_or]
      exact h1.trans b1

theorem specl2Clash_ok {k : Nat} (hk : 2000001 ≤ k) {H : Hp} {s : Sl} {g : List Int} {n : Int} (hs : Reads .i64 H s g) (hg : gridOk g n = true) :
    ∃ H', callF PP orc k spec_l2Clash.id [.sl 1 s, .int .i64 n] H = some (.bool (clash g n), H') ∧ H <+: H' := by
  obtain ⟨k, rfl⟩ : ∃ m, k = m + 1 := ⟨k - 1, by omega⟩
  rw [spec_l2Clash.call]
  obtain ⟨⟨n1, n2⟩, n3, n4⟩ := (gridOk_iff g n).1 hg
  exact specl2Clash_l0 (by omega) hs hg (2 * n).toNat k 0 H (by omega) (by omega) (List.prefix_refl _)

end Go.Proofs.Ytjojhbdghhmeeaa.Rp
/- Masks, rules and puzzles on plain lists: the model that both sides come to. No conditions. -/
set_option linter.unusedVariables false
set_option linter.unusedSimpArgs false
namespace Go.Proofs.Ytjojhbdghhmeeaa.Rp
open Go Go.RowKit Go.Proofs.Ytjojhbdghhmeeaa.Ab

/-- The value v is in the mask m. -/
def has (m : Int) (v : Nat) : Bool := m.toNat.testBit v
def pw (v : Int) : Int := ((2 ^ v.toNat : Nat) : Int)
def mOr (a b : Int) : Int := ((a.toNat ||| b.toNat : Nat) : Int)
def mAnd (a b : Int) : Int := ((a.toNat &&& b.toNat : Nat) : Int)
def mSub (a b : Int) : Int := ((a.toNat &&& (31 ^^^ b.toNat) : Nat) : Int)

theorem tab_or : ∀ a, a < 32 → ∀ b, b < 32 → IntKind.i64.wrap (((BitVec.ofInt IntKind.i64.bits ((a : Nat) : Int) ||| BitVec.ofInt IntKind.i64.bits ((b : Nat) : Int)).toNat : Int)) = ((a ||| b : Nat) : Int) ∧ a ||| b < 32 := by decide +kernel
theorem tab_and : ∀ a, a < 32 → ∀ b, b < 32 → IntKind.i64.wrap (((BitVec.ofInt IntKind.i64.bits ((a : Nat) : Int) &&& BitVec.ofInt IntKind.i64.bits ((b : Nat) : Int)).toNat : Int)) = ((a &&& b : Nat) : Int) ∧ a &&& b < 32 := by decide +kernel
theorem tab_sub : ∀ a, a < 32 → ∀ b, b < 32 → IntKind.i64.wrap (((BitVec.ofInt IntKind.i64.bits ((a : Nat) : Int) &&& ~~~(BitVec.ofInt IntKind.i64.bits ((b : Nat) : Int))).toNat : Int)) = ((a &&& (31 ^^^ b) : Nat) : Int) ∧ a &&& (31 ^^^ b) < 32 := by decide +kernel
theorem tab_bit : ∀ m, m < 32 → ∀ v, v < 6 → (((((m : Nat) : Int).fdiv (2 ^ (min v IntKind.i64.bits)) : Int).tmod 2) == 1) = m.testBit v := by decide +kernel
theorem tab_bit0 : ∀ m, m < 32 → ∀ v, v < 6 → (((((m : Nat) : Int).fdiv (2 ^ (min v IntKind.i64.bits)) : Int).tmod 2) == 0) = !m.testBit v := by decide +kernel
theorem tab_bit' : ∀ m, m < 32 → ∀ v, v < 6 → (IntKind.i64.wrap (((BitVec.ofInt IntKind.i64.bits (((m : Nat) : Int).fdiv (2 ^ (min v IntKind.i64.bits)) : Int) &&& BitVec.ofInt IntKind.i64.bits 1).toNat : Int)) == 1) = m.testBit v := by decide +kernel
theorem tab_bit0' : ∀ m, m < 32 → ∀ v, v < 6 → (IntKind.i64.wrap (((BitVec.ofInt IntKind.i64.bits (((m : Nat) : Int).fdiv (2 ^ (min v IntKind.i64.bits)) : Int) &&& BitVec.ofInt IntKind.i64.bits 1).toNat : Int)) == 0) = !m.testBit v := by decide +kernel
theorem tab_shl : ∀ v, v < 7 → IntKind.i64.wrap (1 * 2 ^ (min v IntKind.i64.bits)) = ((2 ^ v : Nat) : Int) := by decide +kernel

/-- A mask of five bits. -/
def M (m : Int) : Prop := 0 ≤ m ∧ m < 32
theorem M.nat {m : Int} (h : M m) : ∃ a : Nat, m = (a : Int) ∧ a < 32 := ⟨m.toNat, by have := h.1; omega, by have := h.1; have := h.2; omega⟩
theorem m_or {a b : Int} (ha : M a) (hb : M b) : IntKind.i64.wrap (((BitVec.ofInt IntKind.i64.bits a ||| BitVec.ofInt IntKind.i64.bits b).toNat : Int)) = mOr a b := by
  obtain ⟨a, rfl, h1⟩ := ha.nat; obtain ⟨b, rfl, h2⟩ := hb.nat; exact (tab_or a h1 b h2).1
theorem m_and {a b : Int} (ha : M a) (hb : M b) : IntKind.i64.wrap (((BitVec.ofInt IntKind.i64.bits a &&& BitVec.ofInt IntKind.i64.bits b).toNat : Int)) = mAnd a b := by
  obtain ⟨a, rfl, h1⟩ := ha.nat; obtain ⟨b, rfl, h2⟩ := hb.nat; exact (tab_and a h1 b h2).1
theorem m_sub {a b : Int} (ha : M a) (hb : M b) : IntKind.i64.wrap (((BitVec.ofInt IntKind.i64.bits a &&& ~~~(BitVec.ofInt IntKind.i64.bits b)).toNat : Int)) = mSub a b := by
  obtain ⟨a, rfl, h1⟩ := ha.nat; obtain ⟨b, rfl, h2⟩ := hb.nat; exact (tab_sub a h1 b h2).1
theorem M.or {a b : Int} (ha : M a) (hb : M b) : M (mOr a b) := by
  obtain ⟨a, rfl, h1⟩ := ha.nat; obtain ⟨b, rfl, h2⟩ := hb.nat; have := (tab_or a h1 b h2).2; unfold M mOr; simp only [Int.toNat_natCast]; omega
theorem M.and {a b : Int} (ha : M a) (hb : M b) : M (mAnd a b) := by
  obtain ⟨a, rfl, h1⟩ := ha.nat; obtain ⟨b, rfl, h2⟩ := hb.nat; have := (tab_and a h1 b h2).2; unfold M mAnd; simp only [Int.toNat_natCast]; omega
theorem M.sub {a b : Int} (ha : M a) (hb : M b) : M (mSub a b) := by
  obtain ⟨a, rfl, h1⟩ := ha.nat; obtain ⟨b, rfl, h2⟩ := hb.nat; have := (tab_sub a h1 b h2).2; unfold M mSub; simp only [Int.toNat_natCast]; omega
theorem m_bit {m v : Int} (hm : M m) (h0 : 0 ≤ v) (h1 : v ≤ 5) : ((((m : Int).fdiv (2 ^ (min v.toNat IntKind.i64.bits)) : Int).tmod 2) == 1) = has m v.toNat := by
  obtain ⟨a, rfl, h2⟩ := hm.nat; exact tab_bit a h2 v.toNat (by omega)
theorem m_bit0 {m v : Int} (hm : M m) (h0 : 0 ≤ v) (h1 : v ≤ 5) : ((((m : Int).fdiv (2 ^ (min v.toNat IntKind.i64.bits)) : Int).tmod 2) == 0) = !has m v.toNat := by
  obtain ⟨a, rfl, h2⟩ := hm.nat; exact tab_bit0 a h2 v.toNat (by omega)
theorem m_bit' {m v : Int} (hm : M m) (h0 : 0 ≤ v) (h1 : v ≤ 5) : (IntKind.i64.wrap (((BitVec.ofInt IntKind.i64.bits ((m : Int).fdiv (2 ^ (min v.toNat IntKind.i64.bits)) : Int) &&& BitVec.ofInt IntKind.i64.bits 1).toNat : Int)) == 1) = has m v.toNat := by
  obtain ⟨a, rfl, h2⟩ := hm.nat; exact tab_bit' a h2 v.toNat (by omega)
theorem m_bit0' {m v : Int} (hm : M m) (h0 : 0 ≤ v) (h1 : v ≤ 5) : (IntKind.i64.wrap (((BitVec.ofInt IntKind.i64.bits ((m : Int).fdiv (2 ^ (min v.toNat IntKind.i64.bits)) : Int) &&& BitVec.ofInt IntKind.i64.bits 1).toNat : Int)) == 0) = !has m v.toNat := by
  obtain ⟨a, rfl, h2⟩ := hm.nat; exact tab_bit0' a h2 v.toNat (by omega)
theorem m_shl {v : Int} (h0 : 0 ≤ v) (h1 : v ≤ 6) : IntKind.i64.wrap (1 * 2 ^ (min v.toNat IntKind.i64.bits)) = pw v := tab_shl v.toNat (by omega)
theorem M.pw {v : Int} (h0 : 0 ≤ v) (h1 : v ≤ 4) : M (pw v) := by
  have : v = 0 ∨ v = 1 ∨ v = 2 ∨ v = 3 ∨ v = 4 := by omega
  rcases this with rfl | rfl | rfl | rfl | rfl <;> exact ⟨by decide, by decide⟩
theorem tab_hor : ∀ a, a < 32 → ∀ b, b < 32 → ∀ v, v < 6 → (a ||| b).testBit v = (a.testBit v || b.testBit v) := fun a _ b _ v _ => Nat.testBit_or _ _ _
theorem has_or {a b : Int} (v : Nat) : has (mOr a b) v = (has a v || has b v) := by unfold has mOr; rw [Int.toNat_natCast, Nat.testBit_or]
theorem has_and {a b : Int} (v : Nat) : has (mAnd a b) v = (has a v && has b v) := by unfold has mAnd; rw [Int.toNat_natCast, Nat.testBit_and]
theorem has_big {m : Int} (hm : M m) {v : Nat} (hv : 5 ≤ v) : has m v = false := by
  obtain ⟨a, rfl, h2⟩ := hm.nat
  exact Nat.testBit_lt_two_pow (Nat.lt_of_lt_of_le h2 (Nat.pow_le_pow_right (n := 2) (by omega) hv))
theorem has_sub {a b : Int} (ha : M a) (hb : M b) (v : Nat) : has (mSub a b) v = (has a v && !has b v) := by
  by_cases hv : 5 ≤ v
  · rw [has_big (M.sub ha hb) hv, has_big ha hv]; rfl
  · obtain ⟨a, rfl, ha⟩ := ha.nat; obtain ⟨b, rfl, hb⟩ := hb.nat
    unfold has mSub
    simp only [Int.toNat_natCast, Nat.testBit_and, Nat.testBit_xor]
    have : (31 : Nat).testBit v = true := by
      have : v = 0 ∨ v = 1 ∨ v = 2 ∨ v = 3 ∨ v = 4 := by omega
      rcases this with rfl | rfl | rfl | rfl | rfl <;> decide
    rw [this]
    cases b.testBit v <;> rfl
theorem has_pw {v : Int} (h0 : 0 ≤ v) (w : Nat) : has (pw v) w = decide ((w : Int) = v) := by
  unfold has pw
  rw [Int.toNat_natCast, Nat.testBit_two_pow]
  exact decide_eq_decide.2 (by omega)
theorem m_ext {a b : Int} (ha : M a) (hb : M b) (h : ∀ v, v < 5 → has a v = has b v) : a = b := by
  have h' : ∀ v, has a v = has b v := fun v => by
    by_cases hv : 5 ≤ v
    · rw [has_big ha hv, has_big hb hv]
    · exact h v (by omega)
  obtain ⟨a, rfl, ha⟩ := ha.nat; obtain ⟨b, rfl, hb⟩ := hb.nat
  congr 1
  exact Nat.eq_of_testBit_eq h'

/-! ### Rules -/
abbrev V := Int × List Int × Int
def distFrom (vals : List Int) : Nat → Nat → Bool
  | _, 0 => true
  | i, j + 1 => !(vals.take i).contains (vals.getD i 0) && distFrom vals (i + 1) j
def holdsV (kind value : Int) (vals : List Int) : Bool :=
  if kind = 1 then distFrom vals 0 vals.length else if kind = 2 then decide (vals.foldl (· + ·) 0 = value) else if kind = 3 then decide (vals.foldl (· * ·) 1 = value)
  else if kind = 4 then decide (vals.getD 0 0 < vals.getD 1 0) else decide (mx (vals.getD 0 0 - vals.getD 1 0) (vals.getD 1 0 - vals.getD 0 0) = value)
def orFrom (vals : List Int) : List Int → Nat → Nat → List Int
  | fl, _, 0 => fl
  | fl, i, j + 1 => orFrom vals (fl.set i (mOr (fl.getD i 0) (pw (vals.getD i 0)))) (i + 1) j
def orAll (found vals : List Int) : List Int := orFrom vals found 0 vals.length
def ways (h : List Int → Bool) : List Int → List Int → List Int → List Int
  | [], vals, found => if h vals = true then orAll found vals else found
  | m :: ms, vals, found => (maskVals m).foldl (fun f v => ways h ms (vals ++ [v]) f) found
def ruleMasksV (kind value : Int) (own : List Int) : List Int := ways (holdsV kind value) own [] (List.replicate own.length 0)
def ownOf (masks cells : List Int) : List Int := cells.map (gv masks)
/-- The masks with which a rule is asked whether it can hold. -/
def openOf (n : Int) (g : List Int) : List Int := g.map fun v => if v > 0 then pw v else topMask n
def canHoldV (n : Int) (g : List Int) (r : V) : Bool := (ruleMasksV r.1 r.2.2 (ownOf (openOf n g) r.2.1)).headD 0 != 0
def compatFrom (a g : List Int) : Nat → Nat → Bool
  | _, 0 => true
  | i, j + 1 => !(decide (a.getD i 0 > 0) && (decide (g.getD i 0 > 0) && (g.getD i 0 != a.getD i 0))) && compatFrom a g (i + 1) j
def compatB (given g : List Int) : Bool := compatFrom given g 0 g.length
def fitsV (n : Int) (given : List Int) (vs : List V) (g : List Int) : Bool := compatB given g && (vs.all (canHoldV n g) && !clash g n)
def ruleOkV (n : Int) (r : V) : Bool := ruleOk n r.1 r.2.1 r.2.2
def puzzleV (n : Int) (given : List Int) (vs : List V) : Bool := gridOk given n && (decide (vs.length ≤ 20) && vs.all (ruleOkV n))
def puzzleFitsV (n : Int) (given : List Int) (vs : List V) (g : List Int) : Bool := puzzleV n given vs && (gridOk g n && fitsV n given vs g)
def puzzleSolvedV (n : Int) (given : List Int) (vs : List V) (g : List Int) : Bool := puzzleFitsV n given vs g && decide (filled g = g.length)

def upto : Nat → Int → List Int
  | 0, _ => []
  | j + 1, v => v :: upto j (v + 1)
/-- All ways to fill a grid from a cell on, as far as f lets pass. -/
def sols (f : List Int → Bool) (n : Nat) : Nat → List Int → List (List Int)
  | 0, g => [g]
  | rem + 1, g => if 0 < g.getD (g.length - (rem + 1)) 0 then sols f n rem g
    else (upto n 1).flatMap fun v => if f (g.set (g.length - (rem + 1)) v) = true then sols f n rem (g.set (g.length - (rem + 1)) v) else []
def allSols (n : Int) (given : List Int) (vs : List V) : List (List Int) := if puzzleFitsV n given vs given = true then sols (fitsV n given vs) n.toNat given.length given else []
def zeros (n : Int) : List Int := List.replicate (n * n).toNat 0
def squares (n : Int) : List (List Int) := sols (fun g => !clash g n) n.toNat (n * n).toNat (zeros n)
def masksOk (n : Int) (l : List Int) : Bool := decide (2 ≤ n ∧ n ≤ 4) && (l.all (maskOk n) && decide ((l.length : Int) = n * n))
end Go.Proofs.Ytjojhbdghhmeeaa.Rp
/- Whether a rule holds for values, in full. No conditions. -/
set_option linter.unusedVariables false
set_option linter.unusedSimpArgs false
namespace Go.Proofs.Ytjojhbdghhmeeaa.Rp
open Go Go.RowKit Go.Proofs.Ytjojhbdghhmeeaa.Ab

theorem rd_at {H : Hp} {k : IntKind} {s : Sl} {l : List Int} (h : Reads k H s l) {i : Int} (h0 : 0 ≤ i) (h1 : i < (l.length : Int)) : ldI k H s.blk (s.off + i.toNat * 1) = some (l.getD i.toNat 0) := by
  have h2 : i.toNat < l.length := by omega
  rw [Nat.mul_one, reads_at h i.toNat h2, List.getD_eq_getElem?_getD, List.getElem?_eq_getElem h2]; rfl
theorem rdn {H : Hp} {k : IntKind} {s : Sl} {l : List Int} (h : Reads k H s l) {i : Nat} (h1 : i < l.length) : ldI k H s.blk (s.off + i * 1) = some (l.getD i 0) := by
  rw [Nat.mul_one, reads_at h i h1, List.getD_eq_getElem?_getD, List.getElem?_eq_getElem h1]; rfl
theorem dt {p : Prop} [Decidable p] (h : p) : decide p = true := decide_eq_true h
theorem df {p : Prop} [Decidable p] (h : ¬ p) : decide p = false := decide_eq_false h
theorem bt {a b : Int} (h : a = b) : (a == b) = true := by simp [h]
theorem bf {a b : Int} (h : a ≠ b) : (a == b) = false := by simp [h]
theorem nt {a b : Int} (h : a ≠ b) : (a != b) = true := by simp [h]
theorem nf {a b : Int} (h : a = b) : (a != b) = false := by simp [h]
theorem ncast (i : Nat) : ((i : Nat) : Int) + 1 = ((i + 1 : Nat) : Int) := rfl
theorem ip {α : Type} {c : Prop} [Decidable c] {a b : α} (h : c) : (if c then a else b) = a := if_pos h
theorem iN {α : Type} {c : Prop} [Decidable c] {a b : α} (h : ¬ c) : (if c then a else b) = b := if_neg h

theorem holds_l1 (rec : Rec) (k : Nat) (L0 : Sl → Int → Int → Bool → Int → Int → Sl → Int → Hp → An) {kind value : Int} {cs vs : Sl} {H : Hp} {vals : List Int} (hs : Reads .i64 H vs vals) (hl : vals.length ≤ 1000) {i : Nat} (hi : i < vals.length) {x5 x6 : Int} :
    ∀ (j m fuel : Nat) (d : Bool), m + j = i → j < fuel → spec_l4Holds.l1 rec k L0 fuel vs x5 x6 d i m kind cs value H = L0 vs x5 x6 (d && !((vals.take i).drop m).contains (vals.getD i 0)) ((i : Int) + 1) kind cs value H := by
  have hv := hs.len
  intro j
  induction j with
  | zero =>
    intro m fuel d hm hf
    obtain ⟨fuel, rfl⟩ : ∃ q, fuel = q + 1 := ⟨fuel - 1, by omega⟩
    rw [List.drop_eq_nil_of_le (by simp; omega)]
    simp (disch := omega) only [spec_l4Holds.l1, spec_l4Holds.j4, df, cond_false, wr, List.contains_nil, Bool.not_false, Bool.and_true]
  | succ j ih =>
    intro m fuel d hm hf
    obtain ⟨fuel, rfl⟩ : ∃ q, fuel = q + 1 := ⟨fuel - 1, by omega⟩
    have ht : m < (vals.take i).length := by simp; omega
    have e : (vals.take i)[m] = vals.getD m 0 := by simp [List.getD_eq_getElem?_getD, show m < vals.length by omega]
    rw [List.drop_eq_getElem_cons ht, List.contains_cons, e]
    cases d with
    | true =>
      have h5 := ih (m + 1) fuel (vals.getD m 0 != vals.getD i 0) (by omega) (by omega)
      push_cast at h5
      simp (disch := omega) only [spec_l4Holds.l1, spec_l4Holds.j3, dt, Bool.and_self, cond_true, rdn hs, Int.toNat_natCast, Option.bind_some, wr, h5]
      congr 1
      simp only [bne, Bool.true_and, Bool.not_or]
      congr 2
      rw [Bool.eq_iff_iff, beq_iff_eq, beq_iff_eq]; exact eq_comm
    | false =>
      have h5 := ih (m + 1) fuel false (by omega) (by omega)
      push_cast at h5
      simp (disch := omega) only [spec_l4Holds.l1, spec_l4Holds.j3, dt, cond_true, cond_false, wr, h5, Bool.false_and]

/-- Values of a rule's cells. -/
def Vals (l : List Int) : Prop := l.length ≤ 4 ∧ ∀ v ∈ l, 0 ≤ v ∧ v ≤ 4
theorem Vals.at {l : List Int} (h : Vals l) (i : Nat) : 0 ≤ l.getD i 0 ∧ l.getD i 0 ≤ 4 := by
  rw [List.getD_eq_getElem?_getD]
  by_cases hi : i < l.length
  · rw [List.getElem?_eq_getElem hi]; exact h.2 _ (List.getElem_mem hi)
  · rw [List.getElem?_eq_none (by omega)]; simp
theorem holds_l0 (rec : Rec) (k : Nat) (hk : 1000 < k) {kind value : Int} {cs vs : Sl} {H : Hp} {vals : List Int} (hs : Reads .i64 H vs vals) (hl : Vals vals) (h2 : (kind = 1 ∨ kind = 2 ∨ kind = 3) ∨ 2 ≤ vals.length) :
    ∀ (j i fuel : Nat) (x5 x6 : Int) (d : Bool), i + j = vals.length → j < fuel → 0 ≤ x5 → x5 ≤ 4 * i → 0 ≤ x6 → x6 ≤ 4 ^ i →
      spec_l4Holds.l0 rec k fuel vs x5 x6 d i kind cs value H = some (.bool (if kind = 1 then d && distFrom vals i j else if kind = 2 then decide ((vals.drop i).foldl (· + ·) x5 = value) else if kind = 3 then decide ((vals.drop i).foldl (· * ·) x6 = value)
        else if kind = 4 then decide (vals.getD 0 0 < vals.getD 1 0) else decide (mx (vals.getD 0 0 - vals.getD 1 0) (vals.getD 1 0 - vals.getD 0 0) = value)), H) := by
  have hv := hs.len
  have hl4 := hl.1
  have eqd : ∀ a b : Int, (a == b) = decide (a = b) := fun a b => by rw [Bool.eq_iff_iff]; simp
  intro j
  induction j with
  | zero =>
    intro i fuel x5 x6 d hi hf h50 h51 h60 h61
    obtain ⟨fuel, rfl⟩ : ∃ q, fuel = q + 1 := ⟨fuel - 1, by omega⟩
    rw [List.drop_eq_nil_of_le (by omega)]
    simp (disch := omega) only [spec_l4Holds.l0, spec_l4Holds.j2, df, cond_false, distFrom, Bool.and_true, List.foldl_nil, eqd]
    by_cases k1 : kind = 1
    · simp only [k1, decide_true, cond_true, if_true]
    by_cases k2 : kind = 2
    · subst k2; rfl
    by_cases k3 : kind = 3
    · subst k3; rfl
    have hlen : 2 ≤ vals.length := by omega
    have a0 := hl.at 0
    have a1 := hl.at 1
    simp (disch := omega) only [k1, k2, k3, decide_false, cond_false, if_false, dt, Bool.and_self, cond_true, rdn hs, Option.bind_some, wr, Int.toNat_zero, Int.toNat_one]
    by_cases k4 : kind = 4
    · simp only [k4, decide_true, cond_true, if_true]
    · simp only [k4, decide_false, cond_false, if_false]
      rw [show (0 - (vals.getD 0 0 - vals.getD 1 0)) = vals.getD 1 0 - vals.getD 0 0 by omega]
  | succ j ih =>
    intro i fuel x5 x6 d hi hf h50 h51 h60 h61
    obtain ⟨fuel, rfl⟩ : ∃ q, fuel = q + 1 := ⟨fuel - 1, by omega⟩
    have h2 : i < vals.length := by omega
    obtain ⟨a0, a1⟩ := hl.at i
    have hd : (vals.drop i) = vals.getD i 0 :: vals.drop (i + 1) := by
      rw [List.drop_eq_getElem_cons h2, List.getD_eq_getElem?_getD, List.getElem?_eq_getElem h2]; rfl
    have h5 := holds_l1 rec k (spec_l4Holds.l0 rec k fuel) (kind := kind) (value := value) (cs := cs) hs (by omega) h2 (x5 := x5 + vals.getD i 0) (x6 := x6 * vals.getD i 0) i 0 k d (by omega) (by omega)
    have hp : (4 : Int) ^ i ≤ 64 := by
      have : i = 0 ∨ i = 1 ∨ i = 2 ∨ i = 3 := by omega
      rcases this with rfl | rfl | rfl | rfl <;> decide
    have hm : x6 * vals.getD i 0 ≤ x6 * 4 := Int.mul_le_mul_of_nonneg_left a1 h60
    have hm0 : 0 ≤ x6 * vals.getD i 0 := Int.mul_nonneg h60 a0
    have hq : (4 : Int) ^ (i + 1) = 4 ^ i * 4 := Int.pow_succ _ _
    
    have h6 := ih (i + 1) fuel (x5 + vals.getD i 0) (x6 * vals.getD i 0) (d && !(vals.take i).contains (vals.getD i 0)) (by omega) (by omega) (by omega) (by omega) (by omega) (by omega)
    push_cast at h6
    simp only [Int.natCast_zero, List.drop_zero] at h5
    rw [hd, List.foldl_cons, List.foldl_cons]
    simp (disch := omega) only [spec_l4Holds.l0, dt, Bool.and_self, cond_true, Int.toNat_natCast, rdn hs, Option.bind_some, wr, h5, h6, distFrom, Bool.and_assoc]
theorem l4Holds_full {k : Nat} (hk : 2000 ≤ k) {kind value : Int} {cs vs : Sl} {H : Hp} {vals : List Int} (hs : Reads .i64 H vs vals) (hl : Vals vals) (h2 : (kind = 1 ∨ kind = 2 ∨ kind = 3) ∨ 2 ≤ vals.length) :
    callF PP orc k spec_l4Holds.id [.agg [.int .i64 kind, .sl 1 cs, .int .i64 value], .sl 1 vs] H = some (.bool (holdsV kind value vals), H) := by
  obtain ⟨k, rfl⟩ : ∃ q, k = q + 1 := ⟨k - 1, by omega⟩
  rw [spec_l4Holds.call]
  have h4 := hl.1
  have := holds_l0 (callF PP orc k) k (by omega) (kind := kind) (value := value) (cs := cs) hs hl h2 vals.length 0 k 0 1 true (by omega) (by omega) (by omega) (by omega) (by omega) (by omega)
  simp only [List.drop_zero, Bool.true_and] at this
  exact this
end Go.Proofs.Ytjojhbdghhmeeaa.Rp
/- Functions of the program as plain Lean functions. No conditions. -/
set_option linter.unusedVariables false
set_option linter.unusedSimpArgs false
set_option maxRecDepth 100000
namespace Go.Proofs.Ytjojhbdghhmeeaa.Rp
open Go Go.Proofs.Ytjojhbdghhmeeaa.Ab
noncomputable def spec_l20Open.body : Code := (Go.Proofs.Try.f80).body.getD .skip
noncomputable def spec_l20Open.j0 (rec : Rec) (k : Nat) (x0 : Sl) (H : Hp) : An := some (.ptr H.length 0, H ++ [some (Blk.mk false [.sl 1 x0, .int .i64 0])])
noncomputable def spec_l20Open.f (rec : Rec) (k : Nat) (a0 : Sl) (H : Hp) : An := bif decide ((a0.len : Int) > 2000) then if (0 ≤ (0 : Int) ∧ (0 : Int) ≤ 2000 ∧ (2000 : Int) ≤ a0.len ∧ (2000 : Int) = 2000) ∧ 0 < 1 ∧ true = true then spec_l20Open.j0 rec k (Sl.mk a0.nil a0.blk (a0.off + (0 : Int).toNat * 1) ((2000 : Int) - 0).toNat) H else none else spec_l20Open.j0 rec k a0 H
theorem spec_l20Open.j0_eq (rec : Rec) (k : Nat) : ∀ x0 H, spec_l20Open.j0 rec k x0 H = ex PP (orc spec_l20Open.id) rec k (sub spec_l20Open.body [1, 1]) (St.of 11 [(0, .sl 1 x0)] []) H (kAt PP (orc spec_l20Open.id) rec k spec_l20Open.body [1, 1] [] (K0 PP Go.Proofs.Try.f80)) := by
  intros x0 H
  unfold spec_l20Open.j0
  kernel_rfl
theorem spec_l20Open.f_eq (rec : Rec) (k : Nat) : ∀ a0 H, spec_l20Open.f rec k a0 H = ex PP (orc spec_l20Open.id) rec k spec_l20Open.body (St.of 11 [(0, .sl 1 a0)] []) H (K0 PP Go.Proofs.Try.f80) := by
  intros a0 H
  unfold spec_l20Open.f
  try simp only [spec_l20Open.j0_eq rec k, -eq_self]
  kernel_rfl
theorem spec_l20Open.call (k : Nat) : ∀ a0 H, callF PP orc (k + 1) spec_l20Open.id [.sl 1 a0] H = spec_l20Open.f (callF PP orc k) k a0 H := by
  intros a0 H
  rw [callF_at (fn := Go.Proofs.Try.f80) (c := spec_l20Open.body) Go.Proofs.Try.func80 (by kernel_rfl) (Nat.le_of_ble_eq_true (by kernel_rfl)), spec_l20Open.f_eq]
  kernel_rfl
noncomputable def spec_l20Rd_pick.body : Code := (Go.Proofs.Try.f87).body.getD .skip
noncomputable def spec_l20Rd_pick.j1 (rec : Rec) (k : Nat) (x0b : Nat) (x0o : Nat) (x1 : Int) (H : Hp) : An := (ldI .i64 H x0b (x0o + 1)).bind fun n4 => (ldS 1 H x0b (x0o + 0)).bind fun s5 => bif decide ((IntKind.i64.wrap (n4 - 1)) < (s5.len : Int)) then (ldS 1 H x0b (x0o + 0)).bind fun s6 => bif decide (0 ≤ (IntKind.i64.wrap (n4 - 1) : Int)) && decide ((IntKind.i64.wrap (n4 - 1) : Int) < s6.len) then (ldI .u8 H s6.blk (s6.off + (IntKind.i64.wrap (n4 - 1) : Int).toNat * 1)).bind fun n7 => if (x1 : Int) = 0 then none else some (.int .i64 ((IntKind.i64.wrap n7 : Int).tmod x1), H) else none else (ldS 1 H x0b (x0o + 0)).bind fun s8 => (ldS 1 H x0b (x0o + 0)).bind fun s9 => if ((s9.len : Int) : Int) = 0 then none else bif decide (0 ≤ ((IntKind.i64.wrap (n4 - 1) : Int).tmod (s9.len : Int) : Int)) && decide (((IntKind.i64.wrap (n4 - 1) : Int).tmod (s9.len : Int) : Int) < s8.len) then (ldI .u8 H s8.blk (s8.off + ((IntKind.i64.wrap (n4 - 1) : Int).tmod (s9.len : Int) : Int).toNat * 1)).bind fun n10 => (ldS 1 H x0b (x0o + 0)).bind fun s11 => (ldS 1 H x0b (x0o + 0)).bind fun s12 => if ((s12.len : Int) : Int) = 0 then none else bif decide (0 ≤ ((IntKind.i64.wrap ((IntKind.i64.wrap ((IntKind.i64.wrap (n4 - 1)) * 7)) + 3) : Int).tmod (s12.len : Int) : Int)) && decide (((IntKind.i64.wrap ((IntKind.i64.wrap ((IntKind.i64.wrap (n4 - 1)) * 7)) + 3) : Int).tmod (s12.len : Int) : Int) < s11.len) then (ldI .u8 H s11.blk (s11.off + ((IntKind.i64.wrap ((IntKind.i64.wrap ((IntKind.i64.wrap (n4 - 1)) * 7)) + 3) : Int).tmod (s12.len : Int) : Int).toNat * 1)).bind fun n13 => (ldS 1 H x0b (x0o + 0)).bind fun s14 => if ((s14.len : Int) : Int) = 0 then none else if (x1 : Int) = 0 then none else some (.int .i64 ((IntKind.i64.wrap (((BitVec.ofInt IntKind.i64.bits (IntKind.i64.wrap ((IntKind.i64.wrap ((IntKind.i64.wrap ((IntKind.i64.wrap ((IntKind.i64.wrap n10) * 131)) + (IntKind.i64.wrap ((IntKind.i64.wrap n13) * 1117)))) + (IntKind.i64.wrap ((IntKind.i64.wrap (n4 - 1)) * 29)))) + (IntKind.i64.wrap ((IntKind.i64.wrap ((IntKind.i64.wrap (n4 - 1) : Int).tdiv (s14.len : Int))) * 53)))) ^^^ BitVec.ofInt IntKind.i64.bits (IntKind.i64.wrap ((IntKind.i64.wrap ((IntKind.i64.wrap ((IntKind.i64.wrap ((IntKind.i64.wrap ((IntKind.i64.wrap n10) * 131)) + (IntKind.i64.wrap ((IntKind.i64.wrap n13) * 1117)))) + (IntKind.i64.wrap ((IntKind.i64.wrap (n4 - 1)) * 29)))) + (IntKind.i64.wrap ((IntKind.i64.wrap ((IntKind.i64.wrap (n4 - 1) : Int).tdiv (s14.len : Int))) * 53))) : Int).tdiv 64))).toNat : Int)) : Int).tmod x1), H) else none else none
noncomputable def spec_l20Rd_pick.j0 (rec : Rec) (k : Nat) (x0b : Nat) (x0o : Nat) (x1 : Int) (x24 : Bool) (H : Hp) : An := bif x24 then some (.int .i64 0, H) else spec_l20Rd_pick.j1 rec k x0b x0o x1 H
noncomputable def spec_l20Rd_pick.f (rec : Rec) (k : Nat) (a0b : Nat) (a0o : Nat) (a1 : Int) (H : Hp) : An := (ldI .i64 H a0b (a0o + 1)).bind fun n1 => (H.sto a0b (a0o + 1) [.int .i64 (IntKind.i64.wrap (n1 + 1))]).bind fun H2 => bif decide (a1 < 1) then spec_l20Rd_pick.j0 rec k a0b a0o a1 true H2 else (ldS 1 H2 a0b (a0o + 0)).bind fun s3 => spec_l20Rd_pick.j0 rec k a0b a0o a1 ((s3.len : Int) == 0) H2
theorem spec_l20Rd_pick.j1_eq (rec : Rec) (k : Nat) : ∀ x0b x0o x1 H, spec_l20Rd_pick.j1 rec k x0b x0o x1 H = ex PP (orc spec_l20Rd_pick.id) rec k (sub spec_l20Rd_pick.body [1, 1, 1]) (St.of 99 [(0, .ptr x0b x0o), (1, .int .i64 x1)] []) H (kAt PP (orc spec_l20Rd_pick.id) rec k spec_l20Rd_pick.body [1, 1, 1] [] (K0 PP Go.Proofs.Try.f87)) := by
  intros x0b x0o x1 H
  unfold spec_l20Rd_pick.j1
  kernel_rfl
theorem spec_l20Rd_pick.j0_eq (rec : Rec) (k : Nat) : ∀ x0b x0o x1 x24 H, spec_l20Rd_pick.j0 rec k x0b x0o x1 x24 H = ex PP (orc spec_l20Rd_pick.id) rec k (sub spec_l20Rd_pick.body [1, 1, 0, 1]) (St.of 99 [(0, .ptr x0b x0o), (1, .int .i64 x1), (24, .bool x24)] []) H (kAt PP (orc spec_l20Rd_pick.id) rec k spec_l20Rd_pick.body [1, 1, 0, 1] [] (K0 PP Go.Proofs.Try.f87)) := by
  intros x0b x0o x1 x24 H
  unfold spec_l20Rd_pick.j0
  try simp only [spec_l20Rd_pick.j1_eq rec k, -eq_self]
  kernel_rfl
theorem spec_l20Rd_pick.f_eq (rec : Rec) (k : Nat) : ∀ a0b a0o a1 H, spec_l20Rd_pick.f rec k a0b a0o a1 H = ex PP (orc spec_l20Rd_pick.id) rec k spec_l20Rd_pick.body (St.of 99 [(0, .ptr a0b a0o), (1, .int .i64 a1)] []) H (K0 PP Go.Proofs.Try.f87) := by
  intros a0b a0o a1 H
  unfold spec_l20Rd_pick.f
  try simp only [spec_l20Rd_pick.j0_eq rec k, -eq_self]
  kernel_rfl
theorem spec_l20Rd_pick.call (k : Nat) : ∀ a0b a0o a1 H, callF PP orc (k + 1) spec_l20Rd_pick.id [.ptr a0b a0o, .int .i64 a1] H = spec_l20Rd_pick.f (callF PP orc k) k a0b a0o a1 H := by
  intros a0b a0o a1 H
  rw [callF_at (fn := Go.Proofs.Try.f87) (c := spec_l20Rd_pick.body) Go.Proofs.Try.func87 (by kernel_rfl) (Nat.le_of_ble_eq_true (by kernel_rfl)), spec_l20Rd_pick.f_eq]
  kernel_rfl
noncomputable def spec_l20Rd_odd.body : Code := (Go.Proofs.Try.f113).body.getD .skip
noncomputable def spec_l20Rd_odd.f (rec : Rec) (k : Nat) (a0b : Nat) (a0o : Nat) (a1 : Int) (H : Hp) : An := bif decide (a1 > 0) then (rec spec_l20Rd_pick.id [.ptr a0b a0o, .int .i64 a1] H).bind fun r1 => (r1.1.toI .i64).bind fun n2 => some (.bool (n2 == (IntKind.i64.wrap (a1 - 1))), r1.2) else some (.bool false, H)
theorem spec_l20Rd_odd.f_eq (rec : Rec) (k : Nat) : ∀ a0b a0o a1 H, spec_l20Rd_odd.f rec k a0b a0o a1 H = ex PP (orc spec_l20Rd_odd.id) rec k spec_l20Rd_odd.body (St.of 15 [(0, .ptr a0b a0o), (1, .int .i64 a1)] []) H (K0 PP Go.Proofs.Try.f113) := by
  intros a0b a0o a1 H
  unfold spec_l20Rd_odd.f
  kernel_rfl
theorem spec_l20Rd_odd.call (k : Nat) : ∀ a0b a0o a1 H, callF PP orc (k + 1) spec_l20Rd_odd.id [.ptr a0b a0o, .int .i64 a1] H = spec_l20Rd_odd.f (callF PP orc k) k a0b a0o a1 H := by
  intros a0b a0o a1 H
  rw [callF_at (fn := Go.Proofs.Try.f113) (c := spec_l20Rd_odd.body) Go.Proofs.Try.func113 (by kernel_rfl) (Nat.le_of_ble_eq_true (by kernel_rfl)), spec_l20Rd_odd.f_eq]
  kernel_rfl
noncomputable def spec_l20Size.body : Code := (Go.Proofs.Try.f109).body.getD .skip
noncomputable def spec_l20Size.f (rec : Rec) (k : Nat) (a0b : Nat) (a0o : Nat) (a1 : Int) (H : Hp) : An := (rec spec_l20Rd_odd.id [.ptr a0b a0o, .int .i64 a1] H).bind fun r1 => r1.1.toB.bind fun b2 => bif b2 then (rec spec_l20Rd_pick.id [.ptr a0b a0o, .int .i64 3] (r1.2 ++ [some (Blk.mk false [.int .i64 1, .int .i64 5, .int .i64 (-1)])])).bind fun r3 => (r3.1.toI .i64).bind fun n4 => bif decide (0 ≤ (n4 : Int)) && decide ((n4 : Int) < (Sl.mk false r1.2.length 0 3).len) then (ldI .i64 r3.2 ((Sl.mk false r1.2.length 0 3).blk) ((Sl.mk false r1.2.length 0 3).off + (n4 : Int).toNat * 1)).bind fun n5 => some (.int .i64 n5, r3.2) else none else (rec spec_l20Rd_pick.id [.ptr a0b a0o, .int .i64 5] (r1.2 ++ [some (Blk.mk false [.int .i64 2, .int .i64 3, .int .i64 3, .int .i64 4, .int .i64 4])])).bind fun r6 => (r6.1.toI .i64).bind fun n7 => bif decide (0 ≤ (n7 : Int)) && decide ((n7 : Int) < (Sl.mk false r1.2.length 0 5).len) then (ldI .i64 r6.2 ((Sl.mk false r1.2.length 0 5).blk) ((Sl.mk false r1.2.length 0 5).off + (n7 : Int).toNat * 1)).bind fun n8 => some (.int .i64 n8, r6.2) else none
theorem spec_l20Size.f_eq (rec : Rec) (k : Nat) : ∀ a0b a0o a1 H, spec_l20Size.f rec k a0b a0o a1 H = ex PP (orc spec_l20Size.id) rec k spec_l20Size.body (St.of 18 [(0, .ptr a0b a0o), (1, .int .i64 a1)] []) H (K0 PP Go.Proofs.Try.f109) := by
  intros a0b a0o a1 H
  unfold spec_l20Size.f
  kernel_rfl
theorem spec_l20Size.call (k : Nat) : ∀ a0b a0o a1 H, callF PP orc (k + 1) spec_l20Size.id [.ptr a0b a0o, .int .i64 a1] H = spec_l20Size.f (callF PP orc k) k a0b a0o a1 H := by
  intros a0b a0o a1 H
  rw [callF_at (fn := Go.Proofs.Try.f109) (c := spec_l20Size.body) Go.Proofs.Try.func109 (by kernel_rfl) (Nat.le_of_ble_eq_true (by kernel_rfl)), spec_l20Size.f_eq]
  kernel_rfl
noncomputable def spec_l20Solved.body : Code := (Go.Proofs.Try.f86).body.getD .skip
noncomputable def spec_l20Solved.f (rec : Rec) (k : Nat) (a0b : Nat) (a0o : Nat) (a1 : Int) (H : Hp) : An := bif decide (0 ≤ (IntKind.i64.wrap (a1 - 2) : Int)) && decide ((IntKind.i64.wrap (a1 - 2) : Int) < (Sl.mk false H.length 0 3).len) then (ldI .i64 (H ++ [some (Blk.mk false [.int .i64 2, .int .i64 12, .int .i64 576])]) ((Sl.mk false H.length 0 3).blk) ((Sl.mk false H.length 0 3).off + (IntKind.i64.wrap (a1 - 2) : Int).toNat * 1)).bind fun n1 => (rec spec_l20Rd_pick.id [.ptr a0b a0o, .int .i64 256] (H ++ [some (Blk.mk false [.int .i64 2, .int .i64 12, .int .i64 576])])).bind fun r2 => (r2.1.toI .i64).bind fun n3 => (rec spec_l20Rd_pick.id [.ptr a0b a0o, .int .i64 3] r2.2).bind fun r4 => (r4.1.toI .i64).bind fun n5 => if (n1 : Int) = 0 then none else (rec spec_SquareNumber.id [.int .i64 a1, .int .i64 ((IntKind.i64.wrap ((IntKind.i64.wrap (n3 * 3)) + n5) : Int).tmod n1)] r4.2).bind fun r6 => (r6.1.toS 1).bind fun s7 => some (.sl 1 s7, r6.2) else none
theorem spec_l20Solved.f_eq (rec : Rec) (k : Nat) : ∀ a0b a0o a1 H, spec_l20Solved.f rec k a0b a0o a1 H = ex PP (orc spec_l20Solved.id) rec k spec_l20Solved.body (St.of 21 [(0, .ptr a0b a0o), (1, .int .i64 a1)] []) H (K0 PP Go.Proofs.Try.f86) := by
  intros a0b a0o a1 H
  unfold spec_l20Solved.f
  kernel_rfl
theorem spec_l20Solved.call (k : Nat) : ∀ a0b a0o a1 H, callF PP orc (k + 1) spec_l20Solved.id [.ptr a0b a0o, .int .i64 a1] H = spec_l20Solved.f (callF PP orc k) k a0b a0o a1 H := by
  intros a0b a0o a1 H
  rw [callF_at (fn := Go.Proofs.Try.f86) (c := spec_l20Solved.body) Go.Proofs.Try.func86 (by kernel_rfl) (Nat.le_of_ble_eq_true (by kernel_rfl)), spec_l20Solved.f_eq]
  kernel_rfl
noncomputable def spec_SquareNumber.body : Code := (Go.Proofs.Try.f92).body.getD .skip
noncomputable def spec_SquareNumber.j1 (rec : Rec) (k : Nat) (x0 : Int) (x1 : Int) (H : Hp) : An := ((H ++ [some (Blk.mk false [.int .i64 0])]).sto H.length 0 [.int .i64 x1]).bind fun H3 => if 0 ≤ (IntKind.i64.wrap (x0 * x0) : Int) ∧ (IntKind.i64.wrap (x0 * x0) : Int) ≤ IntKind.i64.wrap (x0 * x0) ∧ (IntKind.i64.wrap (x0 * x0) : Int) ≤ 1073741824 ∧ 8 ≤ 8192 ∧ 0 < 1 then (rec spec_l2Search.id [.sl 1 (Sl.mk false H3.length 0 (IntKind.i64.wrap (x0 * x0) : Int).toNat), .int .i64 x0, .int .i64 0, .ptr H.length 0] (H3 ++ [some (Blk.mk false (List.replicate (IntKind.i64.wrap (x0 * x0) : Int).toNat [.int .i64 0]).flatten)])).bind fun r4 => (r4.1.toS 1).bind fun s5 => (r4.2.read 1 s5).bind fun c7 => (r4.2.appl 1 [] 0 s5.len c7).bind fun w6 => bif true && c7.all AV.cell then some (.sl 1 w6.1, w6.2) else none else none
noncomputable def spec_SquareNumber.j0 (rec : Rec) (k : Nat) (x0 : Int) (x1 : Int) (x14 : Bool) (H : Hp) : An := bif x14 then some (.sl 1 (Sl.mk false H.length 0 0), H ++ [some (Blk.mk false [])]) else spec_SquareNumber.j1 rec k x0 x1 H
noncomputable def spec_SquareNumber.f (rec : Rec) (k : Nat) (a0 : Int) (a1 : Int) (H : Hp) : An := (rec spec_l1In.id [.int .i64 a0, .int .i64 2, .int .i64 4] H).bind fun r1 => r1.1.toB.bind fun b2 => bif !b2 then spec_SquareNumber.j0 rec k a0 a1 true r1.2 else spec_SquareNumber.j0 rec k a0 a1 (decide (a1 < 0)) r1.2
theorem spec_SquareNumber.j1_eq (rec : Rec) (k : Nat) : ∀ x0 x1 H, spec_SquareNumber.j1 rec k x0 x1 H = ex PP (orc spec_SquareNumber.id) rec k (sub spec_SquareNumber.body [1, 1]) (St.of 27 [(0, .int .i64 x0), (1, .int .i64 x1)] []) H (kAt PP (orc spec_SquareNumber.id) rec k spec_SquareNumber.body [1, 1] [] (K0 PP Go.Proofs.Try.f92)) := by
  intros x0 x1 H
  unfold spec_SquareNumber.j1
  kernel_rfl
theorem spec_SquareNumber.j0_eq (rec : Rec) (k : Nat) : ∀ x0 x1 x14 H, spec_SquareNumber.j0 rec k x0 x1 x14 H = ex PP (orc spec_SquareNumber.id) rec k (sub spec_SquareNumber.body [1, 0, 1]) (St.of 27 [(0, .int .i64 x0), (1, .int .i64 x1), (14, .bool x14)] []) H (kAt PP (orc spec_SquareNumber.id) rec k spec_SquareNumber.body [1, 0, 1] [] (K0 PP Go.Proofs.Try.f92)) := by
  intros x0 x1 x14 H
  unfold spec_SquareNumber.j0
  try simp only [spec_SquareNumber.j1_eq rec k, -eq_self]
  kernel_rfl
theorem spec_SquareNumber.f_eq (rec : Rec) (k : Nat) : ∀ a0 a1 H, spec_SquareNumber.f rec k a0 a1 H = ex PP (orc spec_SquareNumber.id) rec k spec_SquareNumber.body (St.of 27 [(0, .int .i64 a0), (1, .int .i64 a1)] []) H (K0 PP Go.Proofs.Try.f92) := by
  intros a0 a1 H
  unfold spec_SquareNumber.f
  try simp only [spec_SquareNumber.j0_eq rec k, -eq_self]
  kernel_rfl
theorem spec_SquareNumber.call (k : Nat) : ∀ a0 a1 H, callF PP orc (k + 1) spec_SquareNumber.id [.int .i64 a0, .int .i64 a1] H = spec_SquareNumber.f (callF PP orc k) k a0 a1 H := by
  intros a0 a1 H
  rw [callF_at (fn := Go.Proofs.Try.f92) (c := spec_SquareNumber.body) Go.Proofs.Try.func92 (by kernel_rfl) (Nat.le_of_ble_eq_true (by kernel_rfl)), spec_SquareNumber.f_eq]
  kernel_rfl
noncomputable def spec_l2Search.body : Code := (Go.Proofs.Try.f116).body.getD .skip
noncomputable def spec_l2Search.j1 (rec : Rec) (k : Nat) (L0 : Sl → Int → Int → Nat → Nat → Int → Hp → An) (x0 : Sl) (x1 : Int) (x2 : Int) (x3b : Nat) (x3o : Nat) (x9 : Int) (H : Hp) : An := L0 x0 x1 x2 x3b x3o (IntKind.i64.wrap (x9 + 1)) H
noncomputable def spec_l2Search.l0 (rec : Rec) (k : Nat) : Nat → Sl → Int → Int → Nat → Nat → Int → Hp → An
  | 0, _, _, _, _, _, _, _ => none
  | n + 1, x0, x1, x2, x3b, x3o, x9, H => bif decide (x9 ≤ x1) then (H.read 1 x0).bind fun c5 => (H.appl 1 [] 0 x0.len c5).bind fun w4 => bif true && c5.all AV.cell then bif decide (0 ≤ (x2 : Int)) && decide ((x2 : Int) < w4.1.len) then (w4.2.sto w4.1.blk (w4.1.off + (x2 : Int).toNat * 1) [.int .i64 x9]).bind fun H6 => (rec spec_l2Clash.id [.sl 1 w4.1, .int .i64 x1] H6).bind fun r7 => r7.1.toB.bind fun b8 => bif b8 then spec_l2Search.j1 rec k (spec_l2Search.l0 rec k n) x0 x1 x2 x3b x3o x9 r7.2 else (rec spec_l2Search.id [.sl 1 w4.1, .int .i64 x1, .int .i64 (IntKind.i64.wrap (x2 + 1)), .ptr x3b x3o] r7.2).bind fun r9 => (r9.1.toS 1).bind fun s10 => bif decide ((s10.len : Int) > 0) then some (.sl 1 s10, r9.2) else spec_l2Search.j1 rec k (spec_l2Search.l0 rec k n) x0 x1 x2 x3b x3o x9 r9.2 else none else none else some (.sl 1 Sl.none, H)
noncomputable def spec_l2Search.f (rec : Rec) (k : Nat) (a0 : Sl) (a1 : Int) (a2 : Int) (a3b : Nat) (a3o : Nat) (H : Hp) : An := bif a2 == (a0.len : Int) then (ldI .i64 H a3b a3o).bind fun n1 => bif n1 == 0 then some (.sl 1 a0, H) else (ldI .i64 H a3b a3o).bind fun n2 => (H.sto a3b a3o [.int .i64 (IntKind.i64.wrap (n2 - 1))]).bind fun H3 => some (.sl 1 Sl.none, H3) else spec_l2Search.l0 rec k k a0 a1 a2 a3b a3o 1 H
theorem spec_l2Search.j1_eq (rec : Rec) (k : Nat) (n0 : Nat) (L0 : Sl → Int → Int → Nat → Nat → Int → Hp → An) (hL0 : ∀ x0 x1 x2 x3b x3o x9 H, L0 x0 x1 x2 x3b x3o x9 H = iter ((orc spec_l2Search.id).at (lbody (sub spec_l2Search.body [1, 1, 0, 1, 0]))) (ex PP (orc spec_l2Search.id) rec k (lbody (sub spec_l2Search.body [1, 1, 0, 1, 0]))) (kAt PP (orc spec_l2Search.id) rec k spec_l2Search.body [1, 1, 0, 1, 0] [] (K0 PP Go.Proofs.Try.f116)) n0 (St.of 52 [(0, .sl 1 x0), (1, .int .i64 x1), (2, .int .i64 x2), (3, .ptr x3b x3o), (9, .int .i64 x9)] []) H) : ∀ x0 x1 x2 x3b x3o x9 H, spec_l2Search.j1 rec k L0 x0 x1 x2 x3b x3o x9 H = ex PP (orc spec_l2Search.id) rec k (sub spec_l2Search.body [1, 1, 0, 1, 0, 0, 1, 1]) (St.of 52 [(0, .sl 1 x0), (1, .int .i64 x1), (2, .int .i64 x2), (3, .ptr x3b x3o), (9, .int .i64 x9)] []) H (kAt PP (orc spec_l2Search.id) rec k spec_l2Search.body [1, 1, 0, 1, 0, 0, 1, 1] [n0] (K0 PP Go.Proofs.Try.f116)) := by
  intros x0 x1 x2 x3b x3o x9 H
  unfold spec_l2Search.j1
  try simp only [hL0, -eq_self]
  kernel_rfl
theorem spec_l2Search.l0_eq (rec : Rec) (k : Nat) : ∀ n x0 x1 x2 x3b x3o x9 H, spec_l2Search.l0 rec k n x0 x1 x2 x3b x3o x9 H = iter ((orc spec_l2Search.id).at (lbody (sub spec_l2Search.body [1, 1, 0, 1, 0]))) (ex PP (orc spec_l2Search.id) rec k (lbody (sub spec_l2Search.body [1, 1, 0, 1, 0]))) (kAt PP (orc spec_l2Search.id) rec k spec_l2Search.body [1, 1, 0, 1, 0] [] (K0 PP Go.Proofs.Try.f116)) n (St.of 52 [(0, .sl 1 x0), (1, .int .i64 x1), (2, .int .i64 x2), (3, .ptr x3b x3o), (9, .int .i64 x9)] []) H := by
  intro n
  induction n with
  | zero => intros; rfl
  | succ n ih =>
    intros x0 x1 x2 x3b x3o x9 H
    simp only [spec_l2Search.l0, spec_l2Search.j1_eq rec k n (spec_l2Search.l0 rec k n) (fun x0 x1 x2 x3b x3o x9 H => ih x0 x1 x2 x3b x3o x9 H), ih, -eq_self]
    kernel_rfl
theorem spec_l2Search.f_eq (rec : Rec) (k : Nat) : ∀ a0 a1 a2 a3b a3o H, spec_l2Search.f rec k a0 a1 a2 a3b a3o H = ex PP (orc spec_l2Search.id) rec k spec_l2Search.body (St.of 52 [(0, .sl 1 a0), (1, .int .i64 a1), (2, .int .i64 a2), (3, .ptr a3b a3o)] []) H (K0 PP Go.Proofs.Try.f116) := by
  intros a0 a1 a2 a3b a3o H
  unfold spec_l2Search.f
  try simp only [spec_l2Search.l0_eq rec k, -eq_self]
  kernel_rfl
theorem spec_l2Search.call (k : Nat) : ∀ a0 a1 a2 a3b a3o H, callF PP orc (k + 1) spec_l2Search.id [.sl 1 a0, .int .i64 a1, .int .i64 a2, .ptr a3b a3o] H = spec_l2Search.f (callF PP orc k) k a0 a1 a2 a3b a3o H := by
  intros a0 a1 a2 a3b a3o H
  rw [callF_at (fn := Go.Proofs.Try.f116) (c := spec_l2Search.body) Go.Proofs.Try.func116 (by kernel_rfl) (Nat.le_of_ble_eq_true (by kernel_rfl)), spec_l2Search.f_eq]
  kernel_rfl
end Go.Proofs.Ytjojhbdghhmeeaa.Rp
/- The reader of a code: what a draw of a number comes to. No conditions. -/
set_option linter.unusedVariables false
set_option linter.unusedSimpArgs false
namespace Go.Proofs.Ytjojhbdghhmeeaa.Rp
open Go Go.RowKit Go.Proofs.Ytjojhbdghhmeeaa.Ab

/-- From one heap to a later one, apart from the block b. -/
structure Adv (b : Nat) (H H' : Hp) : Prop where
  but : But b H H'
  le : H.length ≤ H'.length
theorem Adv.refl (b : Nat) (H : Hp) : Adv b H H := ⟨fun _ _ _ h => h, Nat.le_refl _⟩
theorem Adv.trans {b : Nat} {H H1 H2 : Hp} (h : Adv b H H1) (h' : Adv b H1 H2) : Adv b H H2 := ⟨fun c x hc hx => h'.but c x hc (h.but c x hc hx), Nat.le_trans h.le h'.le⟩
theorem pf_adv {b : Nat} {H H' : Hp} (g : H <+: H') : Adv b H H' := ⟨fun c x _ hx => pf_get g hx, g.length_le⟩
/-- What lies behind the block b stays. -/
theorem Adv.own {b sz : Nat} {B H H' : Hp} {s : Sl} {c : List AV} (h : Adv b H H') (hb : b < B.length) (ho : Own sz B H s c) : Own sz B H' s c := h.but.own (by have := ho.blk; omega) ho
theorem Adv.reads {b : Nat} {H H' : Hp} {k : IntKind} {s : Sl} {l : List Int} (h : Adv b H H') (hb : s.blk ≠ b) (hr : Reads k H s l) : Reads k H' s l := h.but.reads hb hr

/-- A reader at b, over the bytes l, p read. -/
structure RD (b : Nat) (H : Hp) (l : List Int) (p : Nat) : Prop where
  ex : ∃ s, H[b]? = some (some ⟨false, [.sl 1 s, .int .i64 p]⟩) ∧ Reads .u8 H s l ∧ (l ≠ [] → s.blk ≠ b)
  len : l.length ≤ 2000
  byte : ∀ x ∈ l, 0 ≤ x ∧ x ≤ 255
theorem RD.lt {b : Nat} {H : Hp} {l : List Int} {p : Nat} (h : RD b H l p) : b < H.length := by
  obtain ⟨s, h1, _⟩ := h.ex
  exact (List.getElem?_eq_some_iff.1 h1).1
theorem RD.pf {b : Nat} {H H' : Hp} {l : List Int} {p : Nat} (h : RD b H l p) (g : H <+: H') : RD b H' l p := by
  obtain ⟨s, h1, h2, h3⟩ := h.ex
  exact ⟨⟨s, pf_get g h1, pf_reads g h2, h3⟩, h.len, h.byte⟩
/-- Another block is written, one that is none of the code's. -/
theorem RD.but {b c : Nat} {H H' : Hp} {l : List Int} {p : Nat} (h : RD b H l p) (g : But c H H') (hc : b ≠ c) (hs : ∀ s, H[b]? = some (some ⟨false, [.sl 1 s, .int .i64 p]⟩) → l ≠ [] → s.blk ≠ c) : RD b H' l p := by
  obtain ⟨s, h1, h2, h3⟩ := h.ex
  refine ⟨⟨s, g _ _ hc h1, ?_, h3⟩, h.len, h.byte⟩
  by_cases hl : l = []
  · subst hl; exact reads_nil h2.len
  · exact g.reads (hs s h1 hl) h2

theorem xor_nonneg {x y : Int} (hx : 0 ≤ x ∧ x < 4611686018427387904) (hy : 0 ≤ y ∧ y < 4611686018427387904) :
    0 ≤ IntKind.i64.wrap (((BitVec.ofInt IntKind.i64.bits x ^^^ BitVec.ofInt IntKind.i64.bits y).toNat : Int)) := by
  obtain ⟨a, rfl⟩ := Int.eq_ofNat_of_zero_le hx.1
  obtain ⟨c, rfl⟩ := Int.eq_ofNat_of_zero_le hy.1
  have ha : a < 2 ^ 62 := by have := hx.2; omega
  have hc : c < 2 ^ 62 := by have := hy.2; omega
  have hb : IntKind.i64.bits = 64 := rfl
  rw [hb, BitVec.toNat_xor]
  have ea : (BitVec.ofInt 64 (a : Int)).toNat = a := by rw [BitVec.toNat_ofInt]; omega
  have ec : (BitVec.ofInt 64 (c : Int)).toNat = c := by rw [BitVec.toNat_ofInt]; omega
  rw [ea, ec]
  have := Nat.xor_lt_two_pow ha hc
  rw [wr (by omega) (by omega)]
  omega

theorem pick_ok {k : Nat} (hk : 1 ≤ k) {b : Nat} {H : Hp} {l : List Int} {p : Nat} (h : RD b H l p) (hp : p ≤ 1000000000) (n : Int) :
    ∃ v H', callF PP orc k spec_l20Rd_pick.id [.ptr b 0, .int .i64 n] H = some (.int .i64 v, H') ∧ RD b H' l (p + 1) ∧ But b H H' ∧ H'.length = H.length ∧ 0 ≤ v ∧ (1 ≤ n → v < n) ∧ (n ≤ 1 → v = 0) := by
  obtain ⟨k, rfl⟩ : ∃ m, k = m + 1 := ⟨k - 1, by omega⟩
  rw [spec_l20Rd_pick.call]
  obtain ⟨s, h1, h2, h3⟩ := h.ex
  have hb := (List.getElem?_eq_some_iff.1 h1).1
  have l1 : ldI .i64 H b (0 + 1) = some (p : Int) := by unfold ldI Hp.cell; rw [h1]; simp [AV.toI]
  have w1 : IntKind.i64.wrap ((p : Int) + 1) = ((p + 1 : Nat) : Int) := by rw [wr (by omega) (by omega)]; rfl
  let H2 := H.set b (some ⟨false, [.sl 1 s, .int .i64 ((p + 1 : Nat) : Int)]⟩)
  have a1 : H.sto b (0 + 1) [.int .i64 ((p + 1 : Nat) : Int)] = some H2 := by
    unfold Hp.sto; rw [h1]; simp [H2]
  have hbut : But b H H2 := fun c x hc hx => by
    show (H.set b _)[c]? = some x
    rw [List.getElem?_set_ne (Ne.symm hc)]; exact hx
  have h2b : H2[b]? = some (some ⟨false, [.sl 1 s, .int .i64 ((p + 1 : Nat) : Int)]⟩) := by
    show (H.set b _)[b]? = _
    rw [List.getElem?_set_self hb]
  have hr2 : Reads .u8 H2 s l := by
    by_cases hl : l = []
    · subst hl; exact reads_nil h2.len
    · exact hbut.reads (h3 hl) h2
  have rd2 : RD b H2 l (p + 1) := ⟨⟨s, h2b, hr2, h3⟩, h.len, h.byte⟩
  have hlen : H2.length = H.length := by simp [H2]
  have s0 : ldS 1 H2 b (0 + 0) = some s := by unfold ldS Hp.cell; rw [h2b]; simp [AV.toS]
  have l4 : ldI .i64 H2 b (0 + 1) = some ((p + 1 : Nat) : Int) := by unfold ldI Hp.cell; rw [h2b]; simp [AV.toI]
  have sl : s.len = l.length := h2.len
  have hll := h.len
  clear_value H2
  by_cases hn : n < 1
  · exact ⟨0, H2, by simp only [spec_l20Rd_pick.f, spec_l20Rd_pick.j0, l1, Option.bind_some, w1, a1, hn, decide_true, cond_true], rd2, hbut, hlen, by omega, by omega, fun _ => rfl⟩
  · by_cases hl0 : l.length = 0
    · have e : ((s.len : Int) == 0) = true := by simp; omega
      exact ⟨0, H2, by simp only [spec_l20Rd_pick.f, spec_l20Rd_pick.j0, l1, Option.bind_some, w1, a1, hn, decide_false, cond_false, cond_true, s0, e], rd2, hbut, hlen, by omega, by omega, fun _ => rfl⟩
    · have e : ((s.len : Int) == 0) = false := by simp; omega
      have w2 : IntKind.i64.wrap (((p + 1 : Nat) : Int) - 1) = (p : Int) := by rw [wr (by omega) (by omega)]; omega
      have byt : ∀ i : Nat, (hi : i < l.length) → ldI .u8 H2 s.blk (s.off + i) = some l[i] ∧ 0 ≤ l[i] ∧ l[i] ≤ 255 := fun i hi => ⟨reads_at hr2 i hi, h.byte _ (List.getElem_mem hi)⟩
      have hn0 : ¬ (n = 0) := by omega
      by_cases c : (p : Int) < (s.len : Int)
      · have hi : p < l.length := by omega
        obtain ⟨b1, b2, b3⟩ := byt p hi
        have w3 : IntKind.i64.wrap l[p] = l[p] := wr (by omega) (by omega)
        have q0 : (0 : Int) ≤ (p : Int) := by omega
        refine ⟨(l[p]).tmod n, H2, ?_, rd2, hbut, hlen, Int.tmod_nonneg _ b2, fun h1 => Int.tmod_lt_of_pos _ (by omega), fun h1 => ?_⟩
        · simp only [spec_l20Rd_pick.f, spec_l20Rd_pick.j0, spec_l20Rd_pick.j1, l1, l4, Option.bind_some, w1, w2, a1, hn, decide_false, decide_true, Bool.and_self, cond_false, cond_true, s0, e, c, q0, Int.toNat_natCast, Nat.mul_one, b1, hn0, if_false, w3]
        · have : n = 1 := by omega
          subst this; simp
      · have hlpos : 0 < l.length := by omega
        have hsl0 : ¬ ((s.len : Int) = 0) := by omega
        have q0 : (0 : Int) ≤ (p : Int) := by omega
        have m0 : 0 ≤ (p : Int).tmod (s.len : Int) := Int.tmod_nonneg _ q0
        have m1 : (p : Int).tmod (s.len : Int) < (s.len : Int) := Int.tmod_lt_of_pos _ (by omega)
        have w4 : IntKind.i64.wrap ((p : Int) * 7) = (p : Int) * 7 := wr (by omega) (by omega)
        have w5 : IntKind.i64.wrap ((p : Int) * 7 + 3) = (p : Int) * 7 + 3 := wr (by omega) (by omega)
        have n0 : 0 ≤ ((p : Int) * 7 + 3).tmod (s.len : Int) := Int.tmod_nonneg _ (by omega)
        have n1 : ((p : Int) * 7 + 3).tmod (s.len : Int) < (s.len : Int) := Int.tmod_lt_of_pos _ (by omega)
        have w6 : IntKind.i64.wrap ((p : Int) * 29) = (p : Int) * 29 := wr (by omega) (by omega)
        have d0 : 0 ≤ (p : Int).tdiv (s.len : Int) := Int.tdiv_nonneg q0 (by omega)
        have d1 : (p : Int).tdiv (s.len : Int) ≤ (p : Int) := Int.tdiv_le_self _ q0
        generalize gdv : (p : Int).tdiv (s.len : Int) = dv at *
        generalize gi1 : (p : Int).tmod (s.len : Int) = i1 at *
        generalize gi2 : ((p : Int) * 7 + 3).tmod (s.len : Int) = i2 at *
        obtain ⟨b1, b2, b3⟩ := byt i1.toNat (by omega)
        obtain ⟨c1, c2, c3⟩ := byt i2.toNat (by omega)
        generalize l[i1.toNat] = x1 at *
        generalize l[i2.toNat] = x2 at *
        have w7 : IntKind.i64.wrap x1 = x1 := wr (by omega) (by omega)
        have w8 : IntKind.i64.wrap (x1 * 131) = x1 * 131 := wr (by omega) (by omega)
        have w9 : IntKind.i64.wrap x2 = x2 := wr (by omega) (by omega)
        have w10 : IntKind.i64.wrap (x2 * 1117) = x2 * 1117 := wr (by omega) (by omega)
        have w11 : IntKind.i64.wrap (x1 * 131 + x2 * 1117) = x1 * 131 + x2 * 1117 := wr (by omega) (by omega)
        have w12 : IntKind.i64.wrap (x1 * 131 + x2 * 1117 + (p : Int) * 29) = x1 * 131 + x2 * 1117 + (p : Int) * 29 := wr (by omega) (by omega)
        have w13 : IntKind.i64.wrap dv = dv := wr (by omega) (by omega)
        have w14 : IntKind.i64.wrap (dv * 53) = dv * 53 := wr (by omega) (by omega)
        have w15 : IntKind.i64.wrap (x1 * 131 + x2 * 1117 + (p : Int) * 29 + dv * 53) = x1 * 131 + x2 * 1117 + (p : Int) * 29 + dv * 53 := wr (by omega) (by omega)
        have hX : 0 ≤ x1 * 131 + x2 * 1117 + (p : Int) * 29 + dv * 53 ∧ x1 * 131 + x2 * 1117 + (p : Int) * 29 + dv * 53 < 4611686018427387904 := by omega
        generalize gX : x1 * 131 + x2 * 1117 + (p : Int) * 29 + dv * 53 = X at *
        have y0 : 0 ≤ X.tdiv 64 := Int.tdiv_nonneg hX.1 (by omega)
        have y1 : X.tdiv 64 ≤ X := Int.tdiv_le_self _ hX.1
        have w16 : IntKind.i64.wrap (X.tdiv 64) = X.tdiv 64 := wr (by omega) (by omega)
        have hxor := xor_nonneg hX (y := X.tdiv 64) ⟨y0, by omega⟩
        refine ⟨(IntKind.i64.wrap (((BitVec.ofInt IntKind.i64.bits X ^^^ BitVec.ofInt IntKind.i64.bits (X.tdiv 64)).toNat : Int))).tmod n, H2, ?_, rd2, hbut, hlen, Int.tmod_nonneg _ hxor, fun h1 => Int.tmod_lt_of_pos _ (by omega), fun h1 => ?_⟩
        · simp only [spec_l20Rd_pick.f, spec_l20Rd_pick.j0, spec_l20Rd_pick.j1, l1, l4, Option.bind_some, w1, w2, a1, hn, decide_false, decide_true, Bool.and_self, cond_false, cond_true, s0, e, c, hsl0, if_false, m0, m1, n0, n1, Nat.mul_one, b1, c1, w4, w5, w6, w7, w8, w9, w10, w11, w12, w13, w14, w15, w16, hn0, gdv, gi1, gi2, gX]
        · have : n = 1 := by omega
          subst this; simp

theorem odd_ok {k : Nat} (hk : 2 ≤ k) {b : Nat} {H : Hp} {l : List Int} {p : Nat} (h : RD b H l p) (hp : p ≤ 1000000000) {n : Int} (hn : n < 1000000) :
    ∃ v p' H', callF PP orc k spec_l20Rd_odd.id [.ptr b 0, .int .i64 n] H = some (.bool v, H') ∧ RD b H' l p' ∧ p' ≤ p + 1 ∧ But b H H' ∧ H'.length = H.length ∧ (n ≤ 0 → v = false) := by
  obtain ⟨k, rfl⟩ : ∃ m, k = m + 1 := ⟨k - 1, by omega⟩
  rw [spec_l20Rd_odd.call]
  by_cases c : n > 0
  · obtain ⟨v, H', a1, a2, a3, a4, a5, a6, a7⟩ := pick_ok (show 1 ≤ k by omega) h hp n
    have w : IntKind.i64.wrap (n - 1) = n - 1 := wr (by omega) (by omega)
    exact ⟨v == n - 1, p + 1, H', by simp only [spec_l20Rd_odd.f, c, decide_true, cond_true, a1, Option.bind_some, AV.toI, if_true, w], a2, by omega, a3, a4, by omega⟩
  · exact ⟨false, p, H, by simp only [spec_l20Rd_odd.f, c, decide_false, cond_false], h, by omega, fun _ _ _ h => h, rfl, fun _ => rfl⟩
end Go.Proofs.Ytjojhbdghhmeeaa.Rp
/- Opening a code, drawing a size, copying a list. No conditions. -/
set_option linter.unusedVariables false
set_option linter.unusedSimpArgs false
namespace Go.Proofs.Ytjojhbdghhmeeaa.Rp
open Go Go.RowKit Go.Proofs.Ytjojhbdghhmeeaa.Ab

theorem reads_take {k : IntKind} {H : Hp} {s : Sl} {l : List Int} (h : Reads k H s l) (m : Nat) (hm : m ≤ l.length) (b : Bool) : Reads k H (Sl.mk b s.blk s.off m) (l.take m) :=
  ⟨by simp; omega, fun i hi => by
    have hi' : i < l.length := by simp at hi; omega
    simpa using h.cell i hi'⟩
theorem l20Open_ok {k : Nat} (hk : 1 ≤ k) {H : Hp} {s : Sl} {l : List Int} (hs : Reads .u8 H s l) (hb : ∀ x ∈ l, 0 ≤ x ∧ x ≤ 255) :
    ∃ l' H', callF PP orc k spec_l20Open.id [.sl 1 s] H = some (.ptr H.length 0, H') ∧ H <+: H' ∧ RD H.length H' l' 0 ∧ H'.length = H.length + 1 := by
  obtain ⟨k, rfl⟩ : ∃ m, k = m + 1 := ⟨k - 1, by omega⟩
  rw [spec_l20Open.call]
  have hlen := hs.len
  have lt : ∀ {l : List Int} {s : Sl}, Reads .u8 H s l → l ≠ [] → s.blk ≠ H.length := by
    intro l s h hl e
    have := h.cell 0 (List.length_pos_iff.2 hl)
    unfold Hp.cell at this
    rw [e] at this
    simp at this
  have fin : ∀ (s : Sl) (l : List Int), Reads .u8 H s l → l.length ≤ 2000 → (∀ x ∈ l, 0 ≤ x ∧ x ≤ 255) → RD H.length (H ++ [some (Blk.mk false [.sl 1 s, .int .i64 0])]) l 0 := fun s l h h1 h2 =>
    ⟨⟨s, by simp, pf_reads (List.prefix_append _ _) h, lt h⟩, h1, h2⟩
  by_cases c : (s.len : Int) > 2000
  · have ht := reads_take hs 2000 (by omega) s.nil
    have e : Sl.mk s.nil s.blk (s.off + (0 : Int).toNat * 1) ((2000 : Int) - 0).toNat = Sl.mk s.nil s.blk s.off 2000 := rfl
    refine ⟨l.take 2000, _, ?_, List.prefix_append _ _, fin _ _ ht (by simp; omega) (fun x hx => hb x (List.mem_of_mem_take hx)), by simp⟩
    simp only [spec_l20Open.f, spec_l20Open.j0, c, decide_true, cond_true, e]
    rw [if_pos ⟨⟨by omega, by omega, by omega, by trivial⟩, by omega, by trivial⟩]
  · refine ⟨l, _, ?_, List.prefix_append _ _, fin _ _ hs (by omega) hb, by simp⟩
    simp only [spec_l20Open.f, spec_l20Open.j0, c, decide_false, cond_false]

/-- One of some numbers, drawn. -/
theorem among {b : Nat} {H H' : Hp} {c : List Int} {v : Int} (hbut : But b (H ++ [some (Blk.mk false (c.map (.int .i64)))]) H') (hb : b < H.length) (h0 : 0 ≤ v) (h1 : v < (c.length : Int)) : ∃ x, ldI .i64 H' H.length (0 + v.toNat) = some x ∧ x ∈ c := by
  obtain ⟨i, rfl⟩ := Int.eq_ofNat_of_zero_le h0
  have hi : i < c.length := by omega
  have := hbut _ _ (by omega : H.length ≠ b) (by simp : (H ++ [some (Blk.mk false (c.map (.int .i64)))])[H.length]? = some (some (Blk.mk false (c.map (.int .i64)))))
  refine ⟨c[i], ?_, List.getElem_mem hi⟩
  unfold ldI Hp.cell
  rw [this]
  simp [hi, AV.toI]

theorem l20Size_ok {k : Nat} (hk : 3 ≤ k) {b : Nat} {H : Hp} {l : List Int} {p : Nat} (h : RD b H l p) (hp : p ≤ 999999999) {n : Int} (hn : n < 1000000) :
    ∃ v p' H', callF PP orc k spec_l20Size.id [.ptr b 0, .int .i64 n] H = some (.int .i64 v, H') ∧ RD b H' l p' ∧ p' ≤ p + 2 ∧ Adv b H H' ∧ -1 ≤ v ∧ v ≤ 5 ∧ (n ≤ 0 → 2 ≤ v ∧ v ≤ 4) := by
  obtain ⟨k, rfl⟩ : ∃ m, k = m + 1 := ⟨k - 1, by omega⟩
  rw [spec_l20Size.call]
  obtain ⟨v, p1, H1, a1, a2, a3, a4, a5, a6⟩ := odd_ok (show 2 ≤ k by omega) h (by omega) hn
  have hb := a2.lt
  cases v with
  | true =>
    have ho : ∀ c : List AV, RD b (H1 ++ [some (Blk.mk false c)]) l p1 := fun c => a2.pf (List.prefix_append _ _)
    obtain ⟨w, H2, b1, b2, b3, b4, b5, b6, b7⟩ := pick_ok (show 1 ≤ k by omega) (ho ([1, 5, -1].map (.int .i64))) (by omega) 3
    obtain ⟨x, c1, c2⟩ := among b3 hb b5 (by have := b6 (by omega); simpa using this)
    have c3 : x = 1 ∨ x = 5 ∨ x = -1 := by simpa using c2
    have z : w < ((3 : Nat) : Int) := b6 (by omega)
    refine ⟨x, p1 + 1, H2, ?_, b2, by omega, ⟨fun c y hc hy => b3 c y hc (pf_get (List.prefix_append _ _) (a4 c y hc hy)), by rw [b4]; simp; omega⟩, by omega, by omega, fun h => by have := a6 h; cases this⟩
    simp only [List.map_cons, List.map_nil] at b1
    simp only [spec_l20Size.f, a1, Option.bind_some, AV.toB, cond_true, b1, AV.toI, if_true, b5, z, decide_true, Bool.and_self, Nat.mul_one, c1]
  | false =>
    have ho : ∀ c : List AV, RD b (H1 ++ [some (Blk.mk false c)]) l p1 := fun c => a2.pf (List.prefix_append _ _)
    obtain ⟨w, H2, b1, b2, b3, b4, b5, b6, b7⟩ := pick_ok (show 1 ≤ k by omega) (ho ([2, 3, 3, 4, 4].map (.int .i64))) (by omega) 5
    obtain ⟨x, c1, c2⟩ := among b3 hb b5 (by have := b6 (by omega); simpa using this)
    have c3 : x = 2 ∨ x = 3 ∨ x = 4 := by simpa using c2
    have z : w < ((5 : Nat) : Int) := b6 (by omega)
    refine ⟨x, p1 + 1, H2, ?_, b2, by omega, ⟨fun c y hc hy => b3 c y hc (pf_get (List.prefix_append _ _) (a4 c y hc hy)), by rw [b4]; simp; omega⟩, by omega, by omega, fun h => by omega⟩
    simp only [List.map_cons, List.map_nil] at b1
    simp only [spec_l20Size.f, a1, Option.bind_some, AV.toB, cond_false, cond_true, b1, AV.toI, if_true, b5, z, decide_true, Bool.and_self, Nat.mul_one, c1]

theorem sto1' {H : Hp} {b : Nat} {x : AV} (hg : H[b]? = some (some ⟨false, [x]⟩)) (v : AV) : ∃ H', H.sto b 0 [v] = some H' ∧ H'[b]? = some (some ⟨false, [v]⟩) ∧ But b H H' ∧ H'.length = H.length := by
  have hb := (List.getElem?_eq_some_iff.1 hg).1
  refine ⟨H.set b (some ⟨false, [v]⟩), ?_, by rw [List.getElem?_set_self hb], fun d x hd hx => by rw [List.getElem?_set_ne (Ne.symm hd)]; exact hx, by simp⟩
  unfold Hp.sto
  rw [hg]
  simp
theorem read_ok {H : Hp} {s : Sl} {l : List Int} {k : IntKind} (h : Reads k H s l) : H.read 1 s = some (l.map (.int k)) := by
  unfold Hp.read
  by_cases h0 : s.len = 0
  · rw [if_pos h0]
    have : l = [] := List.length_eq_zero_iff.1 (by rw [← h.len]; exact h0)
    subst this; rfl
  · rw [if_neg h0]
    have hl := h.len
    have hlast := h.cell (l.length - 1) (by omega)
    unfold Hp.cell at hlast
    cases hx : H[s.blk]? with
    | none => rw [hx] at hlast; simp at hlast
    | some x =>
      cases x with
      | none => rw [hx] at hlast; simp at hlast
      | some x =>
        rw [hx] at hlast
        simp only at hlast
        have hb := (List.getElem?_eq_some_iff.1 hlast).1
        simp only
        rw [if_pos (by omega)]
        congr 1
        apply List.ext_getElem?
        intro i
        by_cases hi : i < l.length
        · have := h.cell i hi
          unfold Hp.cell at this
          rw [hx] at this
          simp only at this
          rw [List.getElem?_take, if_pos (by omega), List.getElem?_drop, this]
          simp [hi]
        · rw [List.getElem?_eq_none (by simp; omega), List.getElem?_eq_none (by simp; omega)]
theorem appl_ok (H : Hp) (l : List Int) (k : IntKind) (hl : l.length ≤ 1000000) : H.appl 1 [] 0 l.length (l.map (.int k)) = some (Sl.mk false H.length 0 l.length, H ++ [some (Blk.mk false (l.map (.int k)))]) := by
  unfold Hp.appl
  rw [if_pos (by simp; omega)]
  simp
theorem cells_ok (l : List Int) (k : IntKind) : (l.map (AV.int k)).all AV.cell = true := by
  simp [AV.cell]
end Go.Proofs.Ytjojhbdghhmeeaa.Rp
/- Functions of the program as plain Lean functions. No conditions. -/
set_option linter.unusedVariables false
set_option linter.unusedSimpArgs false
set_option maxRecDepth 100000
namespace Go.Proofs.Ytjojhbdghhmeeaa.Rp
open Go Go.Proofs.Ytjojhbdghhmeeaa.Ab
noncomputable def spec_l4Ways.body : Code := (Go.Proofs.Try.f104).body.getD .skip
noncomputable def spec_l4Ways.l0 (rec : Rec) (k : Nat) : Nat → Sl → Sl → Int → Int → Hp → An
  | 0, _, _, _, _, _ => none
  | n + 1, x2, x3, x8, x9, H => bif decide (x9 < x8) then bif decide (0 ≤ (x9 : Int)) && decide ((x9 : Int) < x3.len) then (ldI .i64 H x3.blk (x3.off + (x9 : Int).toNat * 1)).bind fun n7 => bif decide (0 ≤ (x9 : Int)) && decide ((x9 : Int) < x2.len) then (ldI .i64 H x2.blk (x2.off + (x9 : Int).toNat * 1)).bind fun n8 => if (n8 : Int) < 0 then none else bif decide (0 ≤ (x9 : Int)) && decide ((x9 : Int) < x3.len) then (H.sto x3.blk (x3.off + (x9 : Int).toNat * 1) [.int .i64 (IntKind.i64.wrap (((BitVec.ofInt IntKind.i64.bits n7 ||| BitVec.ofInt IntKind.i64.bits (IntKind.i64.wrap (1 * 2 ^ (min (n8 : Int).toNat IntKind.i64.bits)))).toNat : Int)))]).bind fun H9 => (spec_l4Ways.l0 rec k n) x2 x3 x8 (IntKind.i64.wrap (x9 + 1)) H9 else none else none else none else some (.tup [], H)
noncomputable def spec_l4Ways.l1 (rec : Rec) (k : Nat) : Nat → Sl → Sl → Sl → Sl → Int → Int → Sl → Int → Hp → An
  | 0, _, _, _, _, _, _, _, _, _ => none
  | n + 1, x1, x2, x3, x10, x11, y4_0, y4_1, y4_2, H => bif decide (x11 < (x10.len : Int)) then bif decide (0 ≤ (x11 : Int)) && decide ((x11 : Int) < x10.len) then (ldI .i64 H x10.blk (x10.off + (x11 : Int).toNat * 1)).bind fun n10 => (H.read 1 x2).bind fun c12 => (H.appl 1 [] 0 x2.len c12).bind fun w11 => bif true && c12.all AV.cell then bif stableB H w11.2 x10.blk (x10.off + (x11 : Int).toNat * 1) 1 && true then (w11.2.app 1 w11.1 1 [.int .i64 n10]).bind fun w13 => (rec spec_l4Ways.id [.agg [.int .i64 y4_0, .sl 1 y4_1, .int .i64 y4_2], .sl 1 x1, .sl 1 w13.1, .sl 1 x3] w13.2).bind fun r14 => (spec_l4Ways.l1 rec k n) x1 x2 x3 x10 (IntKind.i64.wrap (x11 + 1)) y4_0 y4_1 y4_2 r14.2 else none else none else none else some (.tup [], H)
noncomputable def spec_l4Ways.f (rec : Rec) (k : Nat) (a0_0 : Int) (a0_1 : Sl) (a0_2 : Int) (a1 : Sl) (a2 : Sl) (a3 : Sl) (H : Hp) : An := bif (a2.len : Int) == (a0_1.len : Int) then (rec spec_l4Holds.id [.agg [.int .i64 a0_0, .sl 1 a0_1, .int .i64 a0_2], .sl 1 a2] H).bind fun r1 => r1.1.toB.bind fun b2 => bif b2 then spec_l4Ways.l0 rec k k a2 a3 (a2.len : Int) 0 r1.2 else some (.tup [], r1.2) else bif decide (0 ≤ ((a2.len : Int) : Int)) && decide (((a2.len : Int) : Int) < a0_1.len) then (ldI .i64 H a0_1.blk (a0_1.off + ((a2.len : Int) : Int).toNat * 1)).bind fun n3 => bif decide (0 ≤ (n3 : Int)) && decide ((n3 : Int) < a1.len) then (ldI .i64 H a1.blk (a1.off + (n3 : Int).toNat * 1)).bind fun n4 => (rec spec_MaskValues.id [.int .i64 n4] H).bind fun r5 => (r5.1.toS 1).bind fun s6 => spec_l4Ways.l1 rec k k a1 a2 a3 s6 0 a0_0 a0_1 a0_2 r5.2 else none else none
theorem spec_l4Ways.l0_eq (rec : Rec) (k : Nat) : ∀ n x2 x3 x8 x9 H, spec_l4Ways.l0 rec k n x2 x3 x8 x9 H = iter ((orc spec_l4Ways.id).at (lbody (sub spec_l4Ways.body [1, 1, 0, 1, 0, 0, 1, 0, 1, 0]))) (ex PP (orc spec_l4Ways.id) rec k (lbody (sub spec_l4Ways.body [1, 1, 0, 1, 0, 0, 1, 0, 1, 0]))) (kAt PP (orc spec_l4Ways.id) rec k spec_l4Ways.body [1, 1, 0, 1, 0, 0, 1, 0, 1, 0] [] (K0 PP Go.Proofs.Try.f104)) n (St.of 68 [(2, .sl 1 x2), (3, .sl 1 x3), (8, .int .i64 x8), (9, .int .i64 x9)] []) H := by
  intro n
  induction n with
  | zero => intros; rfl
  | succ n ih =>
    intros x2 x3 x8 x9 H
    simp only [spec_l4Ways.l0, ih, -eq_self]
    kernel_rfl
theorem spec_l4Ways.l1_eq (rec : Rec) (k : Nat) : ∀ n x1 x2 x3 x10 x11 y4_0 y4_1 y4_2 H, spec_l4Ways.l1 rec k n x1 x2 x3 x10 x11 y4_0 y4_1 y4_2 H = iter ((orc spec_l4Ways.id).at (lbody (sub spec_l4Ways.body [1, 1, 1, 1, 1, 0]))) (ex PP (orc spec_l4Ways.id) rec k (lbody (sub spec_l4Ways.body [1, 1, 1, 1, 1, 0]))) (kAt PP (orc spec_l4Ways.id) rec k spec_l4Ways.body [1, 1, 1, 1, 1, 0] [] (K0 PP Go.Proofs.Try.f104)) n (St.of 68 [(1, .sl 1 x1), (2, .sl 1 x2), (3, .sl 1 x3), (4, .lp 4 0), (10, .sl 1 x10), (11, .int .i64 x11)] [(4, [.int .i64 y4_0, .sl 1 y4_1, .int .i64 y4_2])]) H := by
  intro n
  induction n with
  | zero => intros; rfl
  | succ n ih =>
    intros x1 x2 x3 x10 x11 y4_0 y4_1 y4_2 H
    simp only [spec_l4Ways.l1, ih, -eq_self]
    kernel_rfl
theorem spec_l4Ways.f_eq (rec : Rec) (k : Nat) : ∀ a0_0 a0_1 a0_2 a1 a2 a3 H, spec_l4Ways.f rec k a0_0 a0_1 a0_2 a1 a2 a3 H = ex PP (orc spec_l4Ways.id) rec k spec_l4Ways.body (St.of 68 [(0, .agg [.int .i64 a0_0, .sl 1 a0_1, .int .i64 a0_2]), (1, .sl 1 a1), (2, .sl 1 a2), (3, .sl 1 a3)] []) H (K0 PP Go.Proofs.Try.f104) := by
  intros a0_0 a0_1 a0_2 a1 a2 a3 H
  unfold spec_l4Ways.f
  try simp only [spec_l4Ways.l0_eq rec k, spec_l4Ways.l1_eq rec k, -eq_self]
  kernel_rfl
theorem spec_l4Ways.call (k : Nat) : ∀ a0_0 a0_1 a0_2 a1 a2 a3 H, callF PP orc (k + 1) spec_l4Ways.id [.agg [.int .i64 a0_0, .sl 1 a0_1, .int .i64 a0_2], .sl 1 a1, .sl 1 a2, .sl 1 a3] H = spec_l4Ways.f (callF PP orc k) k a0_0 a0_1 a0_2 a1 a2 a3 H := by
  intros a0_0 a0_1 a0_2 a1 a2 a3 H
  rw [callF_at (fn := Go.Proofs.Try.f104) (c := spec_l4Ways.body) Go.Proofs.Try.func104 (by kernel_rfl) (Nat.le_of_ble_eq_true (by kernel_rfl)), spec_l4Ways.f_eq]
  kernel_rfl
noncomputable def spec_RuleMasks.body : Code := (Go.Proofs.Try.f68).body.getD .skip
noncomputable def spec_RuleMasks.j1 (rec : Rec) (k : Nat) (x1 : Sl) (y3_0 : Int) (y3_1 : Sl) (y3_2 : Int) (H : Hp) : An := if 0 ≤ ((y3_1.len : Int) : Int) ∧ ((y3_1.len : Int) : Int) ≤ (y3_1.len : Int) ∧ ((y3_1.len : Int) : Int) ≤ 1073741824 ∧ 8 ≤ 8192 ∧ 0 < 1 then (rec spec_l4Ways.id [.agg [.int .i64 y3_0, .sl 1 y3_1, .int .i64 y3_2], .sl 1 x1, .sl 1 (Sl.mk false ((H ++ [some (Blk.mk false (List.replicate ((y3_1.len : Int) : Int).toNat [.int .i64 0]).flatten)]).length) 0 0), .sl 1 (Sl.mk false H.length 0 ((y3_1.len : Int) : Int).toNat)] (H ++ [some (Blk.mk false (List.replicate ((y3_1.len : Int) : Int).toNat [.int .i64 0]).flatten)] ++ [some (Blk.mk false [])])).bind fun r5 => some (.sl 1 (Sl.mk false H.length 0 ((y3_1.len : Int) : Int).toNat), r5.2) else none
noncomputable def spec_RuleMasks.j0 (rec : Rec) (k : Nat) (x1 : Sl) (x17 : Bool) (y3_0 : Int) (y3_1 : Sl) (y3_2 : Int) (H : Hp) : An := bif x17 then some (.sl 1 (Sl.mk false H.length 0 0), H ++ [some (Blk.mk false [])]) else spec_RuleMasks.j1 rec k x1 y3_0 y3_1 y3_2 H
noncomputable def spec_RuleMasks.f (rec : Rec) (k : Nat) (a0_0 : Int) (a0_1 : Sl) (a0_2 : Int) (a1 : Sl) (a2 : Int) (H : Hp) : An := (rec spec_RuleValid.id [.agg [.int .i64 a0_0, .sl 1 a0_1, .int .i64 a0_2], .int .i64 a2] H).bind fun r1 => r1.1.toB.bind fun b2 => bif !b2 then spec_RuleMasks.j0 rec k a1 true a0_0 a0_1 a0_2 r1.2 else (rec spec_MasksValid.id [.sl 1 a1, .int .i64 a2] r1.2).bind fun r3 => r3.1.toB.bind fun b4 => spec_RuleMasks.j0 rec k a1 (!b4) a0_0 a0_1 a0_2 r3.2
theorem spec_RuleMasks.j1_eq (rec : Rec) (k : Nat) : ∀ x1 y3_0 y3_1 y3_2 H, spec_RuleMasks.j1 rec k x1 y3_0 y3_1 y3_2 H = ex PP (orc spec_RuleMasks.id) rec k (sub spec_RuleMasks.body [1, 1]) (St.of 29 [(1, .sl 1 x1), (3, .lp 3 0)] [(3, [.int .i64 y3_0, .sl 1 y3_1, .int .i64 y3_2])]) H (kAt PP (orc spec_RuleMasks.id) rec k spec_RuleMasks.body [1, 1] [] (K0 PP Go.Proofs.Try.f68)) := by
  intros x1 y3_0 y3_1 y3_2 H
  unfold spec_RuleMasks.j1
  kernel_rfl
theorem spec_RuleMasks.j0_eq (rec : Rec) (k : Nat) : ∀ x1 x17 y3_0 y3_1 y3_2 H, spec_RuleMasks.j0 rec k x1 x17 y3_0 y3_1 y3_2 H = ex PP (orc spec_RuleMasks.id) rec k (sub spec_RuleMasks.body [1, 0, 1]) (St.of 29 [(1, .sl 1 x1), (3, .lp 3 0), (17, .bool x17)] [(3, [.int .i64 y3_0, .sl 1 y3_1, .int .i64 y3_2])]) H (kAt PP (orc spec_RuleMasks.id) rec k spec_RuleMasks.body [1, 0, 1] [] (K0 PP Go.Proofs.Try.f68)) := by
  intros x1 x17 y3_0 y3_1 y3_2 H
  unfold spec_RuleMasks.j0
  try simp only [spec_RuleMasks.j1_eq rec k, -eq_self]
  kernel_rfl
theorem spec_RuleMasks.f_eq (rec : Rec) (k : Nat) : ∀ a0_0 a0_1 a0_2 a1 a2 H, spec_RuleMasks.f rec k a0_0 a0_1 a0_2 a1 a2 H = ex PP (orc spec_RuleMasks.id) rec k spec_RuleMasks.body (St.of 29 [(0, .agg [.int .i64 a0_0, .sl 1 a0_1, .int .i64 a0_2]), (1, .sl 1 a1), (2, .int .i64 a2)] []) H (K0 PP Go.Proofs.Try.f68) := by
  intros a0_0 a0_1 a0_2 a1 a2 H
  unfold spec_RuleMasks.f
  try simp only [spec_RuleMasks.j0_eq rec k, -eq_self]
  kernel_rfl
theorem spec_RuleMasks.call (k : Nat) : ∀ a0_0 a0_1 a0_2 a1 a2 H, callF PP orc (k + 1) spec_RuleMasks.id [.agg [.int .i64 a0_0, .sl 1 a0_1, .int .i64 a0_2], .sl 1 a1, .int .i64 a2] H = spec_RuleMasks.f (callF PP orc k) k a0_0 a0_1 a0_2 a1 a2 H := by
  intros a0_0 a0_1 a0_2 a1 a2 H
  rw [callF_at (fn := Go.Proofs.Try.f68) (c := spec_RuleMasks.body) Go.Proofs.Try.func68 (by kernel_rfl) (Nat.le_of_ble_eq_true (by kernel_rfl)), spec_RuleMasks.f_eq]
  kernel_rfl
noncomputable def spec_RulePossible.body : Code := (Go.Proofs.Try.f119).body.getD .skip
noncomputable def spec_RulePossible.j4 (rec : Rec) (k : Nat) (x2 : Int) (x7 : Sl) (y3_0 : Int) (y3_1 : Sl) (y3_2 : Int) (H : Hp) : An := (rec spec_RuleMasks.id [.agg [.int .i64 y3_0, .sl 1 y3_1, .int .i64 y3_2], .sl 1 x7, .int .i64 x2] H).bind fun r8 => (r8.1.toS 1).bind fun s9 => bif decide (0 ≤ (0 : Int)) && decide ((0 : Int) < s9.len) then (ldI .i64 r8.2 s9.blk (s9.off + (0 : Int).toNat * 1)).bind fun n10 => some (.bool (n10 != 0), r8.2) else none
noncomputable def spec_RulePossible.j5 (rec : Rec) (k : Nat) (L2 : Sl → Int → Sl → Int → Int → Sl → Int → Hp → An) (x1 : Sl) (x2 : Int) (x7 : Sl) (x8 : Int) (y3_0 : Int) (y3_1 : Sl) (y3_2 : Int) (H : Hp) : An := L2 x1 x2 x7 (IntKind.i64.wrap (x8 + 1)) y3_0 y3_1 y3_2 H
noncomputable def spec_RulePossible.j3 (rec : Rec) (k : Nat) (L2 : Sl → Int → Sl → Int → Int → Sl → Int → Hp → An) (x1 : Sl) (x2 : Int) (x7 : Sl) (x8 : Int) (x9 : Int) (y3_0 : Int) (y3_1 : Sl) (y3_2 : Int) (H : Hp) : An := (H.app 1 x7 1 [.int .i64 x9]).bind fun w7 => spec_RulePossible.j5 rec k L2 x1 x2 w7.1 x8 y3_0 y3_1 y3_2 w7.2
noncomputable def spec_RulePossible.l2 (rec : Rec) (k : Nat) : Nat → Sl → Int → Sl → Int → Int → Sl → Int → Hp → An
  | 0, _, _, _, _, _, _, _, _ => none
  | n + 1, x1, x2, x7, x8, y3_0, y3_1, y3_2, H => bif decide (x8 < (x1.len : Int)) then bif decide (0 ≤ (x8 : Int)) && decide ((x8 : Int) < x1.len) then (ldI .i64 H x1.blk (x1.off + (x8 : Int).toNat * 1)).bind fun n5 => if (n5 : Int) < 0 then none else bif decide (0 ≤ (x8 : Int)) && decide ((x8 : Int) < x1.len) then (ldI .i64 H x1.blk (x1.off + (x8 : Int).toNat * 1)).bind fun n6 => bif n6 == 0 then if (IntKind.i64.wrap (x2 + 1) : Int) < 0 then none else spec_RulePossible.j3 rec k (spec_RulePossible.l2 rec k n) x1 x2 x7 x8 (IntKind.i64.wrap ((IntKind.i64.wrap (1 * 2 ^ (min (IntKind.i64.wrap (x2 + 1) : Int).toNat IntKind.i64.bits))) - 2)) y3_0 y3_1 y3_2 H else spec_RulePossible.j3 rec k (spec_RulePossible.l2 rec k n) x1 x2 x7 x8 (IntKind.i64.wrap (1 * 2 ^ (min (n5 : Int).toNat IntKind.i64.bits))) y3_0 y3_1 y3_2 H else none else none else spec_RulePossible.j4 rec k x2 x7 y3_0 y3_1 y3_2 H
noncomputable def spec_RulePossible.j1 (rec : Rec) (k : Nat) (x1 : Sl) (x2 : Int) (y3_0 : Int) (y3_1 : Sl) (y3_2 : Int) (H : Hp) : An := spec_RulePossible.l2 rec k k x1 x2 (Sl.mk false H.length 0 0) 0 y3_0 y3_1 y3_2 (H ++ [some (Blk.mk false [])])
noncomputable def spec_RulePossible.j0 (rec : Rec) (k : Nat) (x1 : Sl) (x2 : Int) (x19 : Bool) (y3_0 : Int) (y3_1 : Sl) (y3_2 : Int) (H : Hp) : An := bif x19 then some (.bool false, H) else spec_RulePossible.j1 rec k x1 x2 y3_0 y3_1 y3_2 H
noncomputable def spec_RulePossible.f (rec : Rec) (k : Nat) (a0_0 : Int) (a0_1 : Sl) (a0_2 : Int) (a1 : Sl) (a2 : Int) (H : Hp) : An := (rec spec_RuleValid.id [.agg [.int .i64 a0_0, .sl 1 a0_1, .int .i64 a0_2], .int .i64 a2] H).bind fun r1 => r1.1.toB.bind fun b2 => bif !b2 then spec_RulePossible.j0 rec k a1 a2 true a0_0 a0_1 a0_2 r1.2 else (rec spec_GridValid.id [.sl 1 a1, .int .i64 a2] r1.2).bind fun r3 => r3.1.toB.bind fun b4 => spec_RulePossible.j0 rec k a1 a2 (!b4) a0_0 a0_1 a0_2 r3.2
theorem spec_RulePossible.j4_eq (rec : Rec) (k : Nat) : ∀ x2 x7 y3_0 y3_1 y3_2 H, spec_RulePossible.j4 rec k x2 x7 y3_0 y3_1 y3_2 H = ex PP (orc spec_RulePossible.id) rec k (sub spec_RulePossible.body [1, 1, 1, 1]) (St.of 52 [(2, .int .i64 x2), (3, .lp 3 0), (7, .sl 1 x7)] [(3, [.int .i64 y3_0, .sl 1 y3_1, .int .i64 y3_2])]) H (kAt PP (orc spec_RulePossible.id) rec k spec_RulePossible.body [1, 1, 1, 1] [] (K0 PP Go.Proofs.Try.f119)) := by
  intros x2 x7 y3_0 y3_1 y3_2 H
  unfold spec_RulePossible.j4
  kernel_rfl
theorem spec_RulePossible.j5_eq (rec : Rec) (k : Nat) (n2 : Nat) (L2 : Sl → Int → Sl → Int → Int → Sl → Int → Hp → An) (hL2 : ∀ x1 x2 x7 x8 y3_0 y3_1 y3_2 H, L2 x1 x2 x7 x8 y3_0 y3_1 y3_2 H = iter ((orc spec_RulePossible.id).at (lbody (sub spec_RulePossible.body [1, 1, 1, 0, 1, 0]))) (ex PP (orc spec_RulePossible.id) rec k (lbody (sub spec_RulePossible.body [1, 1, 1, 0, 1, 0]))) (kAt PP (orc spec_RulePossible.id) rec k spec_RulePossible.body [1, 1, 1, 0, 1, 0] [] (K0 PP Go.Proofs.Try.f119)) n2 (St.of 52 [(1, .sl 1 x1), (2, .int .i64 x2), (3, .lp 3 0), (7, .sl 1 x7), (8, .int .i64 x8)] [(3, [.int .i64 y3_0, .sl 1 y3_1, .int .i64 y3_2])]) H) : ∀ x1 x2 x7 x8 y3_0 y3_1 y3_2 H, spec_RulePossible.j5 rec k L2 x1 x2 x7 x8 y3_0 y3_1 y3_2 H = ex PP (orc spec_RulePossible.id) rec k (sub spec_RulePossible.body [1, 1, 1, 0, 1, 0, 0, 1, 1]) (St.of 52 [(1, .sl 1 x1), (2, .int .i64 x2), (3, .lp 3 0), (7, .sl 1 x7), (8, .int .i64 x8)] [(3, [.int .i64 y3_0, .sl 1 y3_1, .int .i64 y3_2])]) H (kAt PP (orc spec_RulePossible.id) rec k spec_RulePossible.body [1, 1, 1, 0, 1, 0, 0, 1, 1] [n2] (K0 PP Go.Proofs.Try.f119)) := by
  intros x1 x2 x7 x8 y3_0 y3_1 y3_2 H
  unfold spec_RulePossible.j5
  try simp only [hL2, -eq_self]
  kernel_rfl
theorem spec_RulePossible.j3_eq (rec : Rec) (k : Nat) (n2 : Nat) (L2 : Sl → Int → Sl → Int → Int → Sl → Int → Hp → An) (hL2 : ∀ x1 x2 x7 x8 y3_0 y3_1 y3_2 H, L2 x1 x2 x7 x8 y3_0 y3_1 y3_2 H = iter ((orc spec_RulePossible.id).at (lbody (sub spec_RulePossible.body [1, 1, 1, 0, 1, 0]))) (ex PP (orc spec_RulePossible.id) rec k (lbody (sub spec_RulePossible.body [1, 1, 1, 0, 1, 0]))) (kAt PP (orc spec_RulePossible.id) rec k spec_RulePossible.body [1, 1, 1, 0, 1, 0] [] (K0 PP Go.Proofs.Try.f119)) n2 (St.of 52 [(1, .sl 1 x1), (2, .int .i64 x2), (3, .lp 3 0), (7, .sl 1 x7), (8, .int .i64 x8)] [(3, [.int .i64 y3_0, .sl 1 y3_1, .int .i64 y3_2])]) H) : ∀ x1 x2 x7 x8 x9 y3_0 y3_1 y3_2 H, spec_RulePossible.j3 rec k L2 x1 x2 x7 x8 x9 y3_0 y3_1 y3_2 H = ex PP (orc spec_RulePossible.id) rec k (sub spec_RulePossible.body [1, 1, 1, 0, 1, 0, 0, 1, 0, 0, 1, 1]) (St.of 52 [(1, .sl 1 x1), (2, .int .i64 x2), (3, .lp 3 0), (7, .sl 1 x7), (8, .int .i64 x8), (9, .int .i64 x9)] [(3, [.int .i64 y3_0, .sl 1 y3_1, .int .i64 y3_2])]) H (kAt PP (orc spec_RulePossible.id) rec k spec_RulePossible.body [1, 1, 1, 0, 1, 0, 0, 1, 0, 0, 1, 1] [n2] (K0 PP Go.Proofs.Try.f119)) := by
  intros x1 x2 x7 x8 x9 y3_0 y3_1 y3_2 H
  unfold spec_RulePossible.j3
  try simp only [hL2, spec_RulePossible.j5_eq rec k n2 L2 hL2, -eq_self]
  kernel_rfl
theorem spec_RulePossible.l2_eq (rec : Rec) (k : Nat) : ∀ n x1 x2 x7 x8 y3_0 y3_1 y3_2 H, spec_RulePossible.l2 rec k n x1 x2 x7 x8 y3_0 y3_1 y3_2 H = iter ((orc spec_RulePossible.id).at (lbody (sub spec_RulePossible.body [1, 1, 1, 0, 1, 0]))) (ex PP (orc spec_RulePossible.id) rec k (lbody (sub spec_RulePossible.body [1, 1, 1, 0, 1, 0]))) (kAt PP (orc spec_RulePossible.id) rec k spec_RulePossible.body [1, 1, 1, 0, 1, 0] [] (K0 PP Go.Proofs.Try.f119)) n (St.of 52 [(1, .sl 1 x1), (2, .int .i64 x2), (3, .lp 3 0), (7, .sl 1 x7), (8, .int .i64 x8)] [(3, [.int .i64 y3_0, .sl 1 y3_1, .int .i64 y3_2])]) H := by
  intro n
  induction n with
  | zero => intros; rfl
  | succ n ih =>
    intros x1 x2 x7 x8 y3_0 y3_1 y3_2 H
    simp only [spec_RulePossible.l2, spec_RulePossible.j3_eq rec k n (spec_RulePossible.l2 rec k n) (fun x1 x2 x7 x8 y3_0 y3_1 y3_2 H => ih x1 x2 x7 x8 y3_0 y3_1 y3_2 H), spec_RulePossible.j4_eq rec k, ih, -eq_self]
    kernel_rfl
theorem spec_RulePossible.j1_eq (rec : Rec) (k : Nat) : ∀ x1 x2 y3_0 y3_1 y3_2 H, spec_RulePossible.j1 rec k x1 x2 y3_0 y3_1 y3_2 H = ex PP (orc spec_RulePossible.id) rec k (sub spec_RulePossible.body [1, 1]) (St.of 52 [(1, .sl 1 x1), (2, .int .i64 x2), (3, .lp 3 0)] [(3, [.int .i64 y3_0, .sl 1 y3_1, .int .i64 y3_2])]) H (kAt PP (orc spec_RulePossible.id) rec k spec_RulePossible.body [1, 1] [] (K0 PP Go.Proofs.Try.f119)) := by
  intros x1 x2 y3_0 y3_1 y3_2 H
  unfold spec_RulePossible.j1
  try simp only [spec_RulePossible.l2_eq rec k, -eq_self]
  kernel_rfl
theorem spec_RulePossible.j0_eq (rec : Rec) (k : Nat) : ∀ x1 x2 x19 y3_0 y3_1 y3_2 H, spec_RulePossible.j0 rec k x1 x2 x19 y3_0 y3_1 y3_2 H = ex PP (orc spec_RulePossible.id) rec k (sub spec_RulePossible.body [1, 0, 1]) (St.of 52 [(1, .sl 1 x1), (2, .int .i64 x2), (3, .lp 3 0), (19, .bool x19)] [(3, [.int .i64 y3_0, .sl 1 y3_1, .int .i64 y3_2])]) H (kAt PP (orc spec_RulePossible.id) rec k spec_RulePossible.body [1, 0, 1] [] (K0 PP Go.Proofs.Try.f119)) := by
  intros x1 x2 x19 y3_0 y3_1 y3_2 H
  unfold spec_RulePossible.j0
  try simp only [spec_RulePossible.j1_eq rec k, -eq_self]
  kernel_rfl
theorem spec_RulePossible.f_eq (rec : Rec) (k : Nat) : ∀ a0_0 a0_1 a0_2 a1 a2 H, spec_RulePossible.f rec k a0_0 a0_1 a0_2 a1 a2 H = ex PP (orc spec_RulePossible.id) rec k spec_RulePossible.body (St.of 52 [(0, .agg [.int .i64 a0_0, .sl 1 a0_1, .int .i64 a0_2]), (1, .sl 1 a1), (2, .int .i64 a2)] []) H (K0 PP Go.Proofs.Try.f119) := by
  intros a0_0 a0_1 a0_2 a1 a2 H
  unfold spec_RulePossible.f
  try simp only [spec_RulePossible.j0_eq rec k, -eq_self]
  kernel_rfl
theorem spec_RulePossible.call (k : Nat) : ∀ a0_0 a0_1 a0_2 a1 a2 H, callF PP orc (k + 1) spec_RulePossible.id [.agg [.int .i64 a0_0, .sl 1 a0_1, .int .i64 a0_2], .sl 1 a1, .int .i64 a2] H = spec_RulePossible.f (callF PP orc k) k a0_0 a0_1 a0_2 a1 a2 H := by
  intros a0_0 a0_1 a0_2 a1 a2 H
  rw [callF_at (fn := Go.Proofs.Try.f119) (c := spec_RulePossible.body) Go.Proofs.Try.func119 (by kernel_rfl) (Nat.le_of_ble_eq_true (by kernel_rfl)), spec_RulePossible.f_eq]
  kernel_rfl
noncomputable def spec_l5Fits.body : Code := (Go.Proofs.Try.f98).body.getD .skip
noncomputable def spec_l5Fits.j3 (rec : Rec) (k : Nat) (L0 : Sl → Int → Int → Sl → Sl → Hp → An) (x1 : Sl) (x5 : Int) (y2_0 : Int) (y2_1 : Sl) (y2_2 : Sl) (H : Hp) : An := L0 x1 (IntKind.i64.wrap (x5 + 1)) y2_0 y2_1 y2_2 H
noncomputable def spec_l5Fits.j1 (rec : Rec) (k : Nat) (L0 : Sl → Int → Int → Sl → Sl → Hp → An) (x1 : Sl) (x5 : Int) (x37 : Bool) (y2_0 : Int) (y2_1 : Sl) (y2_2 : Sl) (H : Hp) : An := bif x37 then some (.bool false, H) else spec_l5Fits.j3 rec k L0 x1 x5 y2_0 y2_1 y2_2 H
noncomputable def spec_l5Fits.j5 (rec : Rec) (k : Nat) (x1 : Sl) (y2_0 : Int) (y2_1 : Sl) (y2_2 : Sl) (H : Hp) : An := (rec spec_l2Clash.id [.sl 1 x1, .int .i64 y2_0] H).bind fun r10 => r10.1.toB.bind fun b11 => some (.bool (!b11), r10.2)
noncomputable def spec_l5Fits.l4 (rec : Rec) (k : Nat) : Nat → Sl → Int → Int → Sl → Sl → Hp → An
  | 0, _, _, _, _, _, _ => none
  | n + 1, x1, x6, y2_0, y2_1, y2_2, H => bif decide (x6 < (y2_2.len : Int)) then bif decide (0 ≤ (x6 : Int)) && decide ((x6 : Int) < y2_2.len) then (ldI .i64 H y2_2.blk (y2_2.off + (x6 : Int).toNat * 3)).bind fun n5 => (ldS 1 H y2_2.blk (y2_2.off + (x6 : Int).toNat * 3 + 1)).bind fun s6 => (ldI .i64 H y2_2.blk (y2_2.off + (x6 : Int).toNat * 3 + 1 + 1)).bind fun n7 => (rec spec_RulePossible.id [.agg [.int .i64 n5, .sl 1 s6, .int .i64 n7], .sl 1 x1, .int .i64 y2_0] H).bind fun r8 => r8.1.toB.bind fun b9 => bif !b9 then some (.bool false, r8.2) else (spec_l5Fits.l4 rec k n) x1 (IntKind.i64.wrap (x6 + 1)) y2_0 y2_1 y2_2 r8.2 else none else spec_l5Fits.j5 rec k x1 y2_0 y2_1 y2_2 H
noncomputable def spec_l5Fits.j2 (rec : Rec) (k : Nat) (x1 : Sl) (y2_0 : Int) (y2_1 : Sl) (y2_2 : Sl) (H : Hp) : An := spec_l5Fits.l4 rec k k x1 0 y2_0 y2_1 y2_2 H
noncomputable def spec_l5Fits.l0 (rec : Rec) (k : Nat) : Nat → Sl → Int → Int → Sl → Sl → Hp → An
  | 0, _, _, _, _, _, _ => none
  | n + 1, x1, x5, y2_0, y2_1, y2_2, H => bif decide (x5 < (x1.len : Int)) then bif decide (0 ≤ (x5 : Int)) && decide ((x5 : Int) < y2_1.len) then (ldI .i64 H y2_1.blk (y2_1.off + (x5 : Int).toNat * 1)).bind fun n1 => bif decide (n1 > 0) then bif decide (0 ≤ (x5 : Int)) && decide ((x5 : Int) < x1.len) then (ldI .i64 H x1.blk (x1.off + (x5 : Int).toNat * 1)).bind fun n2 => bif decide (n2 > 0) then bif decide (0 ≤ (x5 : Int)) && decide ((x5 : Int) < x1.len) then (ldI .i64 H x1.blk (x1.off + (x5 : Int).toNat * 1)).bind fun n3 => bif decide (0 ≤ (x5 : Int)) && decide ((x5 : Int) < y2_1.len) then (ldI .i64 H y2_1.blk (y2_1.off + (x5 : Int).toNat * 1)).bind fun n4 => spec_l5Fits.j1 rec k (spec_l5Fits.l0 rec k n) x1 x5 (n3 != n4) y2_0 y2_1 y2_2 H else none else none else spec_l5Fits.j1 rec k (spec_l5Fits.l0 rec k n) x1 x5 false y2_0 y2_1 y2_2 H else none else spec_l5Fits.j1 rec k (spec_l5Fits.l0 rec k n) x1 x5 false y2_0 y2_1 y2_2 H else none else spec_l5Fits.j2 rec k x1 y2_0 y2_1 y2_2 H
noncomputable def spec_l5Fits.f (rec : Rec) (k : Nat) (a0_0 : Int) (a0_1 : Sl) (a0_2 : Sl) (a1 : Sl) (H : Hp) : An := spec_l5Fits.l0 rec k k a1 0 a0_0 a0_1 a0_2 H
theorem spec_l5Fits.j3_eq (rec : Rec) (k : Nat) (n0 : Nat) (L0 : Sl → Int → Int → Sl → Sl → Hp → An) (hL0 : ∀ x1 x5 y2_0 y2_1 y2_2 H, L0 x1 x5 y2_0 y2_1 y2_2 H = iter ((orc spec_l5Fits.id).at (lbody (sub spec_l5Fits.body [1, 0, 1, 0]))) (ex PP (orc spec_l5Fits.id) rec k (lbody (sub spec_l5Fits.body [1, 0, 1, 0]))) (kAt PP (orc spec_l5Fits.id) rec k spec_l5Fits.body [1, 0, 1, 0] [] (K0 PP Go.Proofs.Try.f98)) n0 (St.of 60 [(1, .sl 1 x1), (2, .lp 2 0), (5, .int .i64 x5)] [(2, [.int .i64 y2_0, .sl 1 y2_1, .sl 3 y2_2])]) H) : ∀ x1 x5 y2_0 y2_1 y2_2 H, spec_l5Fits.j3 rec k L0 x1 x5 y2_0 y2_1 y2_2 H = ex PP (orc spec_l5Fits.id) rec k (sub spec_l5Fits.body [1, 0, 1, 0, 0, 1, 1]) (St.of 60 [(1, .sl 1 x1), (2, .lp 2 0), (5, .int .i64 x5)] [(2, [.int .i64 y2_0, .sl 1 y2_1, .sl 3 y2_2])]) H (kAt PP (orc spec_l5Fits.id) rec k spec_l5Fits.body [1, 0, 1, 0, 0, 1, 1] [n0] (K0 PP Go.Proofs.Try.f98)) := by
  intros x1 x5 y2_0 y2_1 y2_2 H
  unfold spec_l5Fits.j3
  try simp only [hL0, -eq_self]
  kernel_rfl
theorem spec_l5Fits.j1_eq (rec : Rec) (k : Nat) (n0 : Nat) (L0 : Sl → Int → Int → Sl → Sl → Hp → An) (hL0 : ∀ x1 x5 y2_0 y2_1 y2_2 H, L0 x1 x5 y2_0 y2_1 y2_2 H = iter ((orc spec_l5Fits.id).at (lbody (sub spec_l5Fits.body [1, 0, 1, 0]))) (ex PP (orc spec_l5Fits.id) rec k (lbody (sub spec_l5Fits.body [1, 0, 1, 0]))) (kAt PP (orc spec_l5Fits.id) rec k spec_l5Fits.body [1, 0, 1, 0] [] (K0 PP Go.Proofs.Try.f98)) n0 (St.of 60 [(1, .sl 1 x1), (2, .lp 2 0), (5, .int .i64 x5)] [(2, [.int .i64 y2_0, .sl 1 y2_1, .sl 3 y2_2])]) H) : ∀ x1 x5 x37 y2_0 y2_1 y2_2 H, spec_l5Fits.j1 rec k L0 x1 x5 x37 y2_0 y2_1 y2_2 H = ex PP (orc spec_l5Fits.id) rec k (sub spec_l5Fits.body [1, 0, 1, 0, 0, 1, 0, 0, 1]) (St.of 60 [(1, .sl 1 x1), (2, .lp 2 0), (5, .int .i64 x5), (37, .bool x37)] [(2, [.int .i64 y2_0, .sl 1 y2_1, .sl 3 y2_2])]) H (kAt PP (orc spec_l5Fits.id) rec k spec_l5Fits.body [1, 0, 1, 0, 0, 1, 0, 0, 1] [n0] (K0 PP Go.Proofs.Try.f98)) := by
  intros x1 x5 x37 y2_0 y2_1 y2_2 H
  unfold spec_l5Fits.j1
  try simp only [hL0, spec_l5Fits.j3_eq rec k n0 L0 hL0, -eq_self]
  kernel_rfl
theorem spec_l5Fits.j5_eq (rec : Rec) (k : Nat) : ∀ x1 y2_0 y2_1 y2_2 H, spec_l5Fits.j5 rec k x1 y2_0 y2_1 y2_2 H = ex PP (orc spec_l5Fits.id) rec k (sub spec_l5Fits.body [1, 1, 1]) (St.of 60 [(1, .sl 1 x1), (2, .lp 2 0)] [(2, [.int .i64 y2_0, .sl 1 y2_1, .sl 3 y2_2])]) H (kAt PP (orc spec_l5Fits.id) rec k spec_l5Fits.body [1, 1, 1] [] (K0 PP Go.Proofs.Try.f98)) := by
  intros x1 y2_0 y2_1 y2_2 H
  unfold spec_l5Fits.j5
  kernel_rfl
theorem spec_l5Fits.l4_eq (rec : Rec) (k : Nat) : ∀ n x1 x6 y2_0 y2_1 y2_2 H, spec_l5Fits.l4 rec k n x1 x6 y2_0 y2_1 y2_2 H = iter ((orc spec_l5Fits.id).at (lbody (sub spec_l5Fits.body [1, 1, 0, 1, 0]))) (ex PP (orc spec_l5Fits.id) rec k (lbody (sub spec_l5Fits.body [1, 1, 0, 1, 0]))) (kAt PP (orc spec_l5Fits.id) rec k spec_l5Fits.body [1, 1, 0, 1, 0] [] (K0 PP Go.Proofs.Try.f98)) n (St.of 60 [(1, .sl 1 x1), (2, .lp 2 0), (6, .int .i64 x6)] [(2, [.int .i64 y2_0, .sl 1 y2_1, .sl 3 y2_2])]) H := by
  intro n
  induction n with
  | zero => intros; rfl
  | succ n ih =>
    intros x1 x6 y2_0 y2_1 y2_2 H
    simp only [spec_l5Fits.l4, spec_l5Fits.j5_eq rec k, ih, -eq_self]
    kernel_rfl
theorem spec_l5Fits.j2_eq (rec : Rec) (k : Nat) : ∀ x1 y2_0 y2_1 y2_2 H, spec_l5Fits.j2 rec k x1 y2_0 y2_1 y2_2 H = ex PP (orc spec_l5Fits.id) rec k (sub spec_l5Fits.body [1, 1]) (St.of 60 [(1, .sl 1 x1), (2, .lp 2 0)] [(2, [.int .i64 y2_0, .sl 1 y2_1, .sl 3 y2_2])]) H (kAt PP (orc spec_l5Fits.id) rec k spec_l5Fits.body [1, 1] [] (K0 PP Go.Proofs.Try.f98)) := by
  intros x1 y2_0 y2_1 y2_2 H
  unfold spec_l5Fits.j2
  try simp only [spec_l5Fits.l4_eq rec k, -eq_self]
  kernel_rfl
theorem spec_l5Fits.l0_eq (rec : Rec) (k : Nat) : ∀ n x1 x5 y2_0 y2_1 y2_2 H, spec_l5Fits.l0 rec k n x1 x5 y2_0 y2_1 y2_2 H = iter ((orc spec_l5Fits.id).at (lbody (sub spec_l5Fits.body [1, 0, 1, 0]))) (ex PP (orc spec_l5Fits.id) rec k (lbody (sub spec_l5Fits.body [1, 0, 1, 0]))) (kAt PP (orc spec_l5Fits.id) rec k spec_l5Fits.body [1, 0, 1, 0] [] (K0 PP Go.Proofs.Try.f98)) n (St.of 60 [(1, .sl 1 x1), (2, .lp 2 0), (5, .int .i64 x5)] [(2, [.int .i64 y2_0, .sl 1 y2_1, .sl 3 y2_2])]) H := by
  intro n
  induction n with
  | zero => intros; rfl
  | succ n ih =>
    intros x1 x5 y2_0 y2_1 y2_2 H
    simp only [spec_l5Fits.l0, spec_l5Fits.j1_eq rec k n (spec_l5Fits.l0 rec k n) (fun x1 x5 y2_0 y2_1 y2_2 H => ih x1 x5 y2_0 y2_1 y2_2 H), spec_l5Fits.j2_eq rec k, ih, -eq_self]
    kernel_rfl
theorem spec_l5Fits.f_eq (rec : Rec) (k : Nat) : ∀ a0_0 a0_1 a0_2 a1 H, spec_l5Fits.f rec k a0_0 a0_1 a0_2 a1 H = ex PP (orc spec_l5Fits.id) rec k spec_l5Fits.body (St.of 60 [(0, .agg [.int .i64 a0_0, .sl 1 a0_1, .sl 3 a0_2]), (1, .sl 1 a1)] []) H (K0 PP Go.Proofs.Try.f98) := by
  intros a0_0 a0_1 a0_2 a1 H
  unfold spec_l5Fits.f
  try simp only [spec_l5Fits.l0_eq rec k, -eq_self]
  kernel_rfl
theorem spec_l5Fits.call (k : Nat) : ∀ a0_0 a0_1 a0_2 a1 H, callF PP orc (k + 1) spec_l5Fits.id [.agg [.int .i64 a0_0, .sl 1 a0_1, .sl 3 a0_2], .sl 1 a1] H = spec_l5Fits.f (callF PP orc k) k a0_0 a0_1 a0_2 a1 H := by
  intros a0_0 a0_1 a0_2 a1 H
  rw [callF_at (fn := Go.Proofs.Try.f98) (c := spec_l5Fits.body) Go.Proofs.Try.func98 (by kernel_rfl) (Nat.le_of_ble_eq_true (by kernel_rfl)), spec_l5Fits.f_eq]
  kernel_rfl
noncomputable def spec_PuzzleFits.body : Code := (Go.Proofs.Try.f60).body.getD .skip
noncomputable def spec_PuzzleFits.f (rec : Rec) (k : Nat) (a0_0 : Int) (a0_1 : Sl) (a0_2 : Sl) (a1 : Sl) (H : Hp) : An := (rec spec_PuzzleValid.id [.agg [.int .i64 a0_0, .sl 1 a0_1, .sl 3 a0_2]] H).bind fun r1 => r1.1.toB.bind fun b2 => bif b2 then (rec spec_GridValid.id [.sl 1 a1, .int .i64 a0_0] r1.2).bind fun r3 => r3.1.toB.bind fun b4 => bif b4 then (rec spec_l5Fits.id [.agg [.int .i64 a0_0, .sl 1 a0_1, .sl 3 a0_2], .sl 1 a1] r3.2).bind fun r5 => r5.1.toB.bind fun b6 => some (.bool b6, r5.2) else some (.bool false, r3.2) else some (.bool false, r1.2)
theorem spec_PuzzleFits.f_eq (rec : Rec) (k : Nat) : ∀ a0_0 a0_1 a0_2 a1 H, spec_PuzzleFits.f rec k a0_0 a0_1 a0_2 a1 H = ex PP (orc spec_PuzzleFits.id) rec k spec_PuzzleFits.body (St.of 18 [(0, .agg [.int .i64 a0_0, .sl 1 a0_1, .sl 3 a0_2]), (1, .sl 1 a1)] []) H (K0 PP Go.Proofs.Try.f60) := by
  intros a0_0 a0_1 a0_2 a1 H
  unfold spec_PuzzleFits.f
  kernel_rfl
theorem spec_PuzzleFits.call (k : Nat) : ∀ a0_0 a0_1 a0_2 a1 H, callF PP orc (k + 1) spec_PuzzleFits.id [.agg [.int .i64 a0_0, .sl 1 a0_1, .sl 3 a0_2], .sl 1 a1] H = spec_PuzzleFits.f (callF PP orc k) k a0_0 a0_1 a0_2 a1 H := by
  intros a0_0 a0_1 a0_2 a1 H
  rw [callF_at (fn := Go.Proofs.Try.f60) (c := spec_PuzzleFits.body) Go.Proofs.Try.func60 (by kernel_rfl) (Nat.le_of_ble_eq_true (by kernel_rfl)), spec_PuzzleFits.f_eq]
  kernel_rfl
noncomputable def spec_PuzzleSolved.body : Code := (Go.Proofs.Try.f63).body.getD .skip
noncomputable def spec_PuzzleSolved.f (rec : Rec) (k : Nat) (a0_0 : Int) (a0_1 : Sl) (a0_2 : Sl) (a1 : Sl) (H : Hp) : An := (rec spec_PuzzleFits.id [.agg [.int .i64 a0_0, .sl 1 a0_1, .sl 3 a0_2], .sl 1 a1] H).bind fun r1 => r1.1.toB.bind fun b2 => bif b2 then (rec spec_GridFilled.id [.sl 1 a1, .int .i64 a0_0] r1.2).bind fun r3 => (r3.1.toI .i64).bind fun n4 => some (.bool (n4 == (a1.len : Int)), r3.2) else some (.bool false, r1.2)
theorem spec_PuzzleSolved.f_eq (rec : Rec) (k : Nat) : ∀ a0_0 a0_1 a0_2 a1 H, spec_PuzzleSolved.f rec k a0_0 a0_1 a0_2 a1 H = ex PP (orc spec_PuzzleSolved.id) rec k spec_PuzzleSolved.body (St.of 17 [(0, .agg [.int .i64 a0_0, .sl 1 a0_1, .sl 3 a0_2]), (1, .sl 1 a1)] []) H (K0 PP Go.Proofs.Try.f63) := by
  intros a0_0 a0_1 a0_2 a1 H
  unfold spec_PuzzleSolved.f
  kernel_rfl
theorem spec_PuzzleSolved.call (k : Nat) : ∀ a0_0 a0_1 a0_2 a1 H, callF PP orc (k + 1) spec_PuzzleSolved.id [.agg [.int .i64 a0_0, .sl 1 a0_1, .sl 3 a0_2], .sl 1 a1] H = spec_PuzzleSolved.f (callF PP orc k) k a0_0 a0_1 a0_2 a1 H := by
  intros a0_0 a0_1 a0_2 a1 H
  rw [callF_at (fn := Go.Proofs.Try.f63) (c := spec_PuzzleSolved.body) Go.Proofs.Try.func63 (by kernel_rfl) (Nat.le_of_ble_eq_true (by kernel_rfl)), spec_PuzzleSolved.f_eq]
  kernel_rfl
noncomputable def spec_l5Search.body : Code := (Go.Proofs.Try.f133).body.getD .skip
noncomputable def spec_l5Search.j2 (rec : Rec) (k : Nat) (L0 : Sl → Int → Int → Nat → Nat → Int → Sl → Sl → Hp → An) (x1 : Sl) (x2 : Int) (x3 : Int) (x4b : Nat) (x4o : Nat) (y5_0 : Int) (y5_1 : Sl) (y5_2 : Sl) (H : Hp) : An := L0 x1 (IntKind.i64.wrap (x2 + 1)) x3 x4b x4o y5_0 y5_1 y5_2 H
noncomputable def spec_l5Search.j7 (rec : Rec) (k : Nat) (L4 : Sl → Int → Int → Nat → Nat → Int → Int → Sl → Sl → Hp → An) (x1 : Sl) (x2 : Int) (x3 : Int) (x4b : Nat) (x4o : Nat) (x10 : Int) (y5_0 : Int) (y5_1 : Sl) (y5_2 : Sl) (H : Hp) : An := L4 x1 x2 x3 x4b x4o (IntKind.i64.wrap (x10 + 1)) y5_0 y5_1 y5_2 H
noncomputable def spec_l5Search.j6 (rec : Rec) (k : Nat) (L4 : Sl → Int → Int → Nat → Nat → Int → Int → Sl → Sl → Hp → An) (x1 : Sl) (x2 : Int) (x3 : Int) (x4b : Nat) (x4o : Nat) (x10 : Int) (y5_0 : Int) (y5_1 : Sl) (y5_2 : Sl) (H : Hp) : An := (H.read 1 x1).bind fun c9 => (H.appl 1 [] 0 x1.len c9).bind fun w8 => bif true && c9.all AV.cell then bif decide (0 ≤ (x2 : Int)) && decide ((x2 : Int) < w8.1.len) then (w8.2.sto w8.1.blk (w8.1.off + (x2 : Int).toNat * 1) [.int .i64 x10]).bind fun H10 => (rec spec_l5Fits.id [.agg [.int .i64 y5_0, .sl 1 y5_1, .sl 3 y5_2], .sl 1 w8.1] H10).bind fun r11 => r11.1.toB.bind fun b12 => bif b12 then (rec spec_l5Search.id [.agg [.int .i64 y5_0, .sl 1 y5_1, .sl 3 y5_2], .sl 1 w8.1, .int .i64 (IntKind.i64.wrap (x2 + 1)), .int .i64 x3, .ptr x4b x4o] r11.2).bind fun r13 => spec_l5Search.j7 rec k L4 x1 x2 x3 x4b x4o x10 y5_0 y5_1 y5_2 r13.2 else spec_l5Search.j7 rec k L4 x1 x2 x3 x4b x4o x10 y5_0 y5_1 y5_2 r11.2 else none else none
noncomputable def spec_l5Search.j5 (rec : Rec) (k : Nat) (L4 : Sl → Int → Int → Nat → Nat → Int → Int → Sl → Sl → Hp → An) (x1 : Sl) (x2 : Int) (x3 : Int) (x4b : Nat) (x4o : Nat) (x10 : Int) (x50 : Bool) (y5_0 : Int) (y5_1 : Sl) (y5_2 : Sl) (H : Hp) : An := bif x50 then spec_l5Search.j6 rec k L4 x1 x2 x3 x4b x4o x10 y5_0 y5_1 y5_2 H else some (.tup [], H)
noncomputable def spec_l5Search.l4 (rec : Rec) (k : Nat) : Nat → Sl → Int → Int → Nat → Nat → Int → Int → Sl → Sl → Hp → An
  | 0, _, _, _, _, _, _, _, _, _, _ => none
  | n + 1, x1, x2, x3, x4b, x4o, x10, y5_0, y5_1, y5_2, H => bif decide (x10 ≤ y5_0) then (ldS 1 H x4b x4o).bind fun s7 => spec_l5Search.j5 rec k (spec_l5Search.l4 rec k n) x1 x2 x3 x4b x4o x10 (decide ((s7.len : Int) < x3)) y5_0 y5_1 y5_2 H else spec_l5Search.j5 rec k (spec_l5Search.l4 rec k n) x1 x2 x3 x4b x4o x10 false y5_0 y5_1 y5_2 H
noncomputable def spec_l5Search.j3 (rec : Rec) (k : Nat) (x1 : Sl) (x2 : Int) (x3 : Int) (x4b : Nat) (x4o : Nat) (y5_0 : Int) (y5_1 : Sl) (y5_2 : Sl) (H : Hp) : An := bif x2 == (x1.len : Int) then (ldS 1 H x4b x4o).bind fun s2 => (H.read 1 x1).bind fun c4 => (H.appl 1 [] 0 x1.len c4).bind fun w3 => bif true && c4.all AV.cell then bif stableB H w3.2 x4b x4o 1 && true then (w3.2.app 1 s2 1 [.sl 1 w3.1]).bind fun w5 => (w5.2.sto x4b x4o [.sl 1 w5.1]).bind fun H6 => some (.tup [], H6) else none else none else spec_l5Search.l4 rec k k x1 x2 x3 x4b x4o 1 y5_0 y5_1 y5_2 H
noncomputable def spec_l5Search.j1 (rec : Rec) (k : Nat) (L0 : Sl → Int → Int → Nat → Nat → Int → Sl → Sl → Hp → An) (x1 : Sl) (x2 : Int) (x3 : Int) (x4b : Nat) (x4o : Nat) (x22 : Bool) (y5_0 : Int) (y5_1 : Sl) (y5_2 : Sl) (H : Hp) : An := bif x22 then spec_l5Search.j2 rec k L0 x1 x2 x3 x4b x4o y5_0 y5_1 y5_2 H else spec_l5Search.j3 rec k x1 x2 x3 x4b x4o y5_0 y5_1 y5_2 H
noncomputable def spec_l5Search.l0 (rec : Rec) (k : Nat) : Nat → Sl → Int → Int → Nat → Nat → Int → Sl → Sl → Hp → An
  | 0, _, _, _, _, _, _, _, _, _ => none
  | n + 1, x1, x2, x3, x4b, x4o, y5_0, y5_1, y5_2, H => bif decide (x2 < (x1.len : Int)) then bif decide (0 ≤ (x2 : Int)) && decide ((x2 : Int) < x1.len) then (ldI .i64 H x1.blk (x1.off + (x2 : Int).toNat * 1)).bind fun n1 => spec_l5Search.j1 rec k (spec_l5Search.l0 rec k n) x1 x2 x3 x4b x4o (decide (n1 > 0)) y5_0 y5_1 y5_2 H else none else spec_l5Search.j1 rec k (spec_l5Search.l0 rec k n) x1 x2 x3 x4b x4o false y5_0 y5_1 y5_2 H
noncomputable def spec_l5Search.f (rec : Rec) (k : Nat) (a0_0 : Int) (a0_1 : Sl) (a0_2 : Sl) (a1 : Sl) (a2 : Int) (a3 : Int) (a4b : Nat) (a4o : Nat) (H : Hp) : An := spec_l5Search.l0 rec k k a1 a2 a3 a4b a4o a0_0 a0_1 a0_2 H
theorem spec_l5Search.j2_eq (rec : Rec) (k : Nat) (n0 : Nat) (L0 : Sl → Int → Int → Nat → Nat → Int → Sl → Sl → Hp → An) (hL0 : ∀ x1 x2 x3 x4b x4o y5_0 y5_1 y5_2 H, L0 x1 x2 x3 x4b x4o y5_0 y5_1 y5_2 H = iter ((orc spec_l5Search.id).at (lbody (sub spec_l5Search.body [1, 0, 0]))) (ex PP (orc spec_l5Search.id) rec k (lbody (sub spec_l5Search.body [1, 0, 0]))) (kAt PP (orc spec_l5Search.id) rec k spec_l5Search.body [1, 0, 0] [] (K0 PP Go.Proofs.Try.f133)) n0 (St.of 70 [(1, .sl 1 x1), (2, .int .i64 x2), (3, .int .i64 x3), (4, .ptr x4b x4o), (5, .lp 5 0)] [(5, [.int .i64 y5_0, .sl 1 y5_1, .sl 3 y5_2])]) H) : ∀ x1 x2 x3 x4b x4o y5_0 y5_1 y5_2 H, spec_l5Search.j2 rec k L0 x1 x2 x3 x4b x4o y5_0 y5_1 y5_2 H = ex PP (orc spec_l5Search.id) rec k (sub spec_l5Search.body [1, 0, 0, 0, 1]) (St.of 70 [(1, .sl 1 x1), (2, .int .i64 x2), (3, .int .i64 x3), (4, .ptr x4b x4o), (5, .lp 5 0)] [(5, [.int .i64 y5_0, .sl 1 y5_1, .sl 3 y5_2])]) H (kAt PP (orc spec_l5Search.id) rec k spec_l5Search.body [1, 0, 0, 0, 1] [n0] (K0 PP Go.Proofs.Try.f133)) := by
  intros x1 x2 x3 x4b x4o y5_0 y5_1 y5_2 H
  unfold spec_l5Search.j2
  try simp only [hL0, -eq_self]
  kernel_rfl
theorem spec_l5Search.j7_eq (rec : Rec) (k : Nat) (n4 : Nat) (L4 : Sl → Int → Int → Nat → Nat → Int → Int → Sl → Sl → Hp → An) (hL4 : ∀ x1 x2 x3 x4b x4o x10 y5_0 y5_1 y5_2 H, L4 x1 x2 x3 x4b x4o x10 y5_0 y5_1 y5_2 H = iter ((orc spec_l5Search.id).at (lbody (sub spec_l5Search.body [1, 1, 1, 1, 0]))) (ex PP (orc spec_l5Search.id) rec k (lbody (sub spec_l5Search.body [1, 1, 1, 1, 0]))) (kAt PP (orc spec_l5Search.id) rec k spec_l5Search.body [1, 1, 1, 1, 0] [] (K0 PP Go.Proofs.Try.f133)) n4 (St.of 70 [(1, .sl 1 x1), (2, .int .i64 x2), (3, .int .i64 x3), (4, .ptr x4b x4o), (5, .lp 5 0), (10, .int .i64 x10)] [(5, [.int .i64 y5_0, .sl 1 y5_1, .sl 3 y5_2])]) H) : ∀ x1 x2 x3 x4b x4o x10 y5_0 y5_1 y5_2 H, spec_l5Search.j7 rec k L4 x1 x2 x3 x4b x4o x10 y5_0 y5_1 y5_2 H = ex PP (orc spec_l5Search.id) rec k (sub spec_l5Search.body [1, 1, 1, 1, 0, 0, 1, 1]) (St.of 70 [(1, .sl 1 x1), (2, .int .i64 x2), (3, .int .i64 x3), (4, .ptr x4b x4o), (5, .lp 5 0), (10, .int .i64 x10)] [(5, [.int .i64 y5_0, .sl 1 y5_1, .sl 3 y5_2])]) H (kAt PP (orc spec_l5Search.id) rec k spec_l5Search.body [1, 1, 1, 1, 0, 0, 1, 1] [n4] (K0 PP Go.Proofs.Try.f133)) := by
  intros x1 x2 x3 x4b x4o x10 y5_0 y5_1 y5_2 H
  unfold spec_l5Search.j7
  try simp only [hL4, -eq_self]
  kernel_rfl
theorem spec_l5Search.j6_eq (rec : Rec) (k : Nat) (n4 : Nat) (L4 : Sl → Int → Int → Nat → Nat → Int → Int → Sl → Sl → Hp → An) (hL4 : ∀ x1 x2 x3 x4b x4o x10 y5_0 y5_1 y5_2 H, L4 x1 x2 x3 x4b x4o x10 y5_0 y5_1 y5_2 H = iter ((orc spec_l5Search.id).at (lbody (sub spec_l5Search.body [1, 1, 1, 1, 0]))) (ex PP (orc spec_l5Search.id) rec k (lbody (sub spec_l5Search.body [1, 1, 1, 1, 0]))) (kAt PP (orc spec_l5Search.id) rec k spec_l5Search.body [1, 1, 1, 1, 0] [] (K0 PP Go.Proofs.Try.f133)) n4 (St.of 70 [(1, .sl 1 x1), (2, .int .i64 x2), (3, .int .i64 x3), (4, .ptr x4b x4o), (5, .lp 5 0), (10, .int .i64 x10)] [(5, [.int .i64 y5_0, .sl 1 y5_1, .sl 3 y5_2])]) H) : ∀ x1 x2 x3 x4b x4o x10 y5_0 y5_1 y5_2 H, spec_l5Search.j6 rec k L4 x1 x2 x3 x4b x4o x10 y5_0 y5_1 y5_2 H = ex PP (orc spec_l5Search.id) rec k (sub spec_l5Search.body [1, 1, 1, 1, 0, 0, 1]) (St.of 70 [(1, .sl 1 x1), (2, .int .i64 x2), (3, .int .i64 x3), (4, .ptr x4b x4o), (5, .lp 5 0), (10, .int .i64 x10)] [(5, [.int .i64 y5_0, .sl 1 y5_1, .sl 3 y5_2])]) H (kAt PP (orc spec_l5Search.id) rec k spec_l5Search.body [1, 1, 1, 1, 0, 0, 1] [n4] (K0 PP Go.Proofs.Try.f133)) := by
  intros x1 x2 x3 x4b x4o x10 y5_0 y5_1 y5_2 H
  unfold spec_l5Search.j6
  try simp only [hL4, spec_l5Search.j7_eq rec k n4 L4 hL4, -eq_self]
  kernel_rfl
theorem spec_l5Search.j5_eq (rec : Rec) (k : Nat) (n4 : Nat) (L4 : Sl → Int → Int → Nat → Nat → Int → Int → Sl → Sl → Hp → An) (hL4 : ∀ x1 x2 x3 x4b x4o x10 y5_0 y5_1 y5_2 H, L4 x1 x2 x3 x4b x4o x10 y5_0 y5_1 y5_2 H = iter ((orc spec_l5Search.id).at (lbody (sub spec_l5Search.body [1, 1, 1, 1, 0]))) (ex PP (orc spec_l5Search.id) rec k (lbody (sub spec_l5Search.body [1, 1, 1, 1, 0]))) (kAt PP (orc spec_l5Search.id) rec k spec_l5Search.body [1, 1, 1, 1, 0] [] (K0 PP Go.Proofs.Try.f133)) n4 (St.of 70 [(1, .sl 1 x1), (2, .int .i64 x2), (3, .int .i64 x3), (4, .ptr x4b x4o), (5, .lp 5 0), (10, .int .i64 x10)] [(5, [.int .i64 y5_0, .sl 1 y5_1, .sl 3 y5_2])]) H) : ∀ x1 x2 x3 x4b x4o x10 x50 y5_0 y5_1 y5_2 H, spec_l5Search.j5 rec k L4 x1 x2 x3 x4b x4o x10 x50 y5_0 y5_1 y5_2 H = ex PP (orc spec_l5Search.id) rec k (sub spec_l5Search.body [1, 1, 1, 1, 0, 0, 0, 1]) (St.of 70 [(1, .sl 1 x1), (2, .int .i64 x2), (3, .int .i64 x3), (4, .ptr x4b x4o), (5, .lp 5 0), (10, .int .i64 x10), (50, .bool x50)] [(5, [.int .i64 y5_0, .sl 1 y5_1, .sl 3 y5_2])]) H (kAt PP (orc spec_l5Search.id) rec k spec_l5Search.body [1, 1, 1, 1, 0, 0, 0, 1] [n4] (K0 PP Go.Proofs.Try.f133)) := by
  intros x1 x2 x3 x4b x4o x10 x50 y5_0 y5_1 y5_2 H
  unfold spec_l5Search.j5
  try simp only [hL4, spec_l5Search.j6_eq rec k n4 L4 hL4, -eq_self]
  kernel_rfl
theorem spec_l5Search.l4_eq (rec : Rec) (k : Nat) : ∀ n x1 x2 x3 x4b x4o x10 y5_0 y5_1 y5_2 H, spec_l5Search.l4 rec k n x1 x2 x3 x4b x4o x10 y5_0 y5_1 y5_2 H = iter ((orc spec_l5Search.id).at (lbody (sub spec_l5Search.body [1, 1, 1, 1, 0]))) (ex PP (orc spec_l5Search.id) rec k (lbody (sub spec_l5Search.body [1, 1, 1, 1, 0]))) (kAt PP (orc spec_l5Search.id) rec k spec_l5Search.body [1, 1, 1, 1, 0] [] (K0 PP Go.Proofs.Try.f133)) n (St.of 70 [(1, .sl 1 x1), (2, .int .i64 x2), (3, .int .i64 x3), (4, .ptr x4b x4o), (5, .lp 5 0), (10, .int .i64 x10)] [(5, [.int .i64 y5_0, .sl 1 y5_1, .sl 3 y5_2])]) H := by
  intro n
  induction n with
  | zero => intros; rfl
  | succ n ih =>
    intros x1 x2 x3 x4b x4o x10 y5_0 y5_1 y5_2 H
    simp only [spec_l5Search.l4, spec_l5Search.j5_eq rec k n (spec_l5Search.l4 rec k n) (fun x1 x2 x3 x4b x4o x10 y5_0 y5_1 y5_2 H => ih x1 x2 x3 x4b x4o x10 y5_0 y5_1 y5_2 H), ih, -eq_self]
    kernel_rfl
theorem spec_l5Search.j3_eq (rec : Rec) (k : Nat) : ∀ x1 x2 x3 x4b x4o y5_0 y5_1 y5_2 H, spec_l5Search.j3 rec k x1 x2 x3 x4b x4o y5_0 y5_1 y5_2 H = ex PP (orc spec_l5Search.id) rec k (sub spec_l5Search.body [1, 1]) (St.of 70 [(1, .sl 1 x1), (2, .int .i64 x2), (3, .int .i64 x3), (4, .ptr x4b x4o), (5, .lp 5 0)] [(5, [.int .i64 y5_0, .sl 1 y5_1, .sl 3 y5_2])]) H (kAt PP (orc spec_l5Search.id) rec k spec_l5Search.body [1, 1] [] (K0 PP Go.Proofs.Try.f133)) := by
  intros x1 x2 x3 x4b x4o y5_0 y5_1 y5_2 H
  unfold spec_l5Search.j3
  try simp only [spec_l5Search.l4_eq rec k, -eq_self]
  kernel_rfl
theorem spec_l5Search.j1_eq (rec : Rec) (k : Nat) (n0 : Nat) (L0 : Sl → Int → Int → Nat → Nat → Int → Sl → Sl → Hp → An) (hL0 : ∀ x1 x2 x3 x4b x4o y5_0 y5_1 y5_2 H, L0 x1 x2 x3 x4b x4o y5_0 y5_1 y5_2 H = iter ((orc spec_l5Search.id).at (lbody (sub spec_l5Search.body [1, 0, 0]))) (ex PP (orc spec_l5Search.id) rec k (lbody (sub spec_l5Search.body [1, 0, 0]))) (kAt PP (orc spec_l5Search.id) rec k spec_l5Search.body [1, 0, 0] [] (K0 PP Go.Proofs.Try.f133)) n0 (St.of 70 [(1, .sl 1 x1), (2, .int .i64 x2), (3, .int .i64 x3), (4, .ptr x4b x4o), (5, .lp 5 0)] [(5, [.int .i64 y5_0, .sl 1 y5_1, .sl 3 y5_2])]) H) : ∀ x1 x2 x3 x4b x4o x22 y5_0 y5_1 y5_2 H, spec_l5Search.j1 rec k L0 x1 x2 x3 x4b x4o x22 y5_0 y5_1 y5_2 H = ex PP (orc spec_l5Search.id) rec k (sub spec_l5Search.body [1, 0, 0, 0, 0, 1]) (St.of 70 [(1, .sl 1 x1), (2, .int .i64 x2), (3, .int .i64 x3), (4, .ptr x4b x4o), (5, .lp 5 0), (22, .bool x22)] [(5, [.int .i64 y5_0, .sl 1 y5_1, .sl 3 y5_2])]) H (kAt PP (orc spec_l5Search.id) rec k spec_l5Search.body [1, 0, 0, 0, 0, 1] [n0] (K0 PP Go.Proofs.Try.f133)) := by
  intros x1 x2 x3 x4b x4o x22 y5_0 y5_1 y5_2 H
  unfold spec_l5Search.j1
  try simp only [hL0, spec_l5Search.j2_eq rec k n0 L0 hL0, spec_l5Search.j3_eq rec k, -eq_self]
  kernel_rfl
theorem spec_l5Search.l0_eq (rec : Rec) (k : Nat) : ∀ n x1 x2 x3 x4b x4o y5_0 y5_1 y5_2 H, spec_l5Search.l0 rec k n x1 x2 x3 x4b x4o y5_0 y5_1 y5_2 H = iter ((orc spec_l5Search.id).at (lbody (sub spec_l5Search.body [1, 0, 0]))) (ex PP (orc spec_l5Search.id) rec k (lbody (sub spec_l5Search.body [1, 0, 0]))) (kAt PP (orc spec_l5Search.id) rec k spec_l5Search.body [1, 0, 0] [] (K0 PP Go.Proofs.Try.f133)) n (St.of 70 [(1, .sl 1 x1), (2, .int .i64 x2), (3, .int .i64 x3), (4, .ptr x4b x4o), (5, .lp 5 0)] [(5, [.int .i64 y5_0, .sl 1 y5_1, .sl 3 y5_2])]) H := by
  intro n
  induction n with
  | zero => intros; rfl
  | succ n ih =>
    intros x1 x2 x3 x4b x4o y5_0 y5_1 y5_2 H
    simp only [spec_l5Search.l0, spec_l5Search.j1_eq rec k n (spec_l5Search.l0 rec k n) (fun x1 x2 x3 x4b x4o y5_0 y5_1 y5_2 H => ih x1 x2 x3 x4b x4o y5_0 y5_1 y5_2 H), ih, -eq_self]
    kernel_rfl
theorem spec_l5Search.f_eq (rec : Rec) (k : Nat) : ∀ a0_0 a0_1 a0_2 a1 a2 a3 a4b a4o H, spec_l5Search.f rec k a0_0 a0_1 a0_2 a1 a2 a3 a4b a4o H = ex PP (orc spec_l5Search.id) rec k spec_l5Search.body (St.of 70 [(0, .agg [.int .i64 a0_0, .sl 1 a0_1, .sl 3 a0_2]), (1, .sl 1 a1), (2, .int .i64 a2), (3, .int .i64 a3), (4, .ptr a4b a4o)] []) H (K0 PP Go.Proofs.Try.f133) := by
  intros a0_0 a0_1 a0_2 a1 a2 a3 a4b a4o H
  unfold spec_l5Search.f
  try simp only [spec_l5Search.l0_eq rec k, -eq_self]
  kernel_rfl
theorem spec_l5Search.call (k : Nat) : ∀ a0_0 a0_1 a0_2 a1 a2 a3 a4b a4o H, callF PP orc (k + 1) spec_l5Search.id [.agg [.int .i64 a0_0, .sl 1 a0_1, .sl 3 a0_2], .sl 1 a1, .int .i64 a2, .int .i64 a3, .ptr a4b a4o] H = spec_l5Search.f (callF PP orc k) k a0_0 a0_1 a0_2 a1 a2 a3 a4b a4o H := by
  intros a0_0 a0_1 a0_2 a1 a2 a3 a4b a4o H
  rw [callF_at (fn := Go.Proofs.Try.f133) (c := spec_l5Search.body) Go.Proofs.Try.func133 (by kernel_rfl) (Nat.le_of_ble_eq_true (by kernel_rfl)), spec_l5Search.f_eq]
  kernel_rfl
noncomputable def spec_l5All.body : Code := (Go.Proofs.Try.f121).body.getD .skip
noncomputable def spec_l5All.j0 (rec : Rec) (k : Nat) (x5b : Nat) (x5o : Nat) (H : Hp) : An := (ldS 1 H x5b x5o).bind fun s5 => some (.sl 1 s5, H)
noncomputable def spec_l5All.f (rec : Rec) (k : Nat) (a0_0 : Int) (a0_1 : Sl) (a0_2 : Sl) (a1 : Int) (H : Hp) : An := ((H ++ [some (Blk.mk false [])] ++ [some (Blk.mk false [.sl 1 Sl.none])]).sto ((H ++ [some (Blk.mk false [])]).length) 0 [.sl 1 (Sl.mk false H.length 0 0)]).bind fun H1 => (rec spec_PuzzleFits.id [.agg [.int .i64 a0_0, .sl 1 a0_1, .sl 3 a0_2], .sl 1 a0_1] H1).bind fun r2 => r2.1.toB.bind fun b3 => bif b3 then (rec spec_l5Search.id [.agg [.int .i64 a0_0, .sl 1 a0_1, .sl 3 a0_2], .sl 1 a0_1, .int .i64 0, .int .i64 a1, .ptr ((H ++ [some (Blk.mk false [])]).length) 0] r2.2).bind fun r4 => spec_l5All.j0 rec k ((H ++ [some (Blk.mk false [])]).length) 0 r4.2 else spec_l5All.j0 rec k ((H ++ [some (Blk.mk false [])]).length) 0 r2.2
theorem spec_l5All.j0_eq (rec : Rec) (k : Nat) : ∀ x5b x5o H, spec_l5All.j0 rec k x5b x5o H = ex PP (orc spec_l5All.id) rec k (sub spec_l5All.body [1, 1, 1]) (St.of 17 [(5, .ptr x5b x5o)] []) H (kAt PP (orc spec_l5All.id) rec k spec_l5All.body [1, 1, 1] [] (K0 PP Go.Proofs.Try.f121)) := by
  intros x5b x5o H
  unfold spec_l5All.j0
  kernel_rfl
theorem spec_l5All.f_eq (rec : Rec) (k : Nat) : ∀ a0_0 a0_1 a0_2 a1 H, spec_l5All.f rec k a0_0 a0_1 a0_2 a1 H = ex PP (orc spec_l5All.id) rec k spec_l5All.body (St.of 17 [(0, .agg [.int .i64 a0_0, .sl 1 a0_1, .sl 3 a0_2]), (1, .int .i64 a1)] []) H (K0 PP Go.Proofs.Try.f121) := by
  intros a0_0 a0_1 a0_2 a1 H
  unfold spec_l5All.f
  try simp only [spec_l5All.j0_eq rec k, -eq_self]
  kernel_rfl
theorem spec_l5All.call (k : Nat) : ∀ a0_0 a0_1 a0_2 a1 H, callF PP orc (k + 1) spec_l5All.id [.agg [.int .i64 a0_0, .sl 1 a0_1, .sl 3 a0_2], .int .i64 a1] H = spec_l5All.f (callF PP orc k) k a0_0 a0_1 a0_2 a1 H := by
  intros a0_0 a0_1 a0_2 a1 H
  rw [callF_at (fn := Go.Proofs.Try.f121) (c := spec_l5All.body) Go.Proofs.Try.func121 (by kernel_rfl) (Nat.le_of_ble_eq_true (by kernel_rfl)), spec_l5All.f_eq]
  kernel_rfl
noncomputable def spec_l10One.body : Code := (Go.Proofs.Try.f129).body.getD .skip
noncomputable def spec_l10One.f (rec : Rec) (k : Nat) (a0_0 : Int) (a0_1 : Sl) (a0_2 : Sl) (H : Hp) : An := (rec spec_l5All.id [.agg [.int .i64 a0_0, .sl 1 a0_1, .sl 3 a0_2], .int .i64 2] H).bind fun r1 => (r1.1.toS 1).bind fun s2 => some (.bool ((s2.len : Int) == 1), r1.2)
theorem spec_l10One.f_eq (rec : Rec) (k : Nat) : ∀ a0_0 a0_1 a0_2 H, spec_l10One.f rec k a0_0 a0_1 a0_2 H = ex PP (orc spec_l10One.id) rec k spec_l10One.body (St.of 7 [(0, .agg [.int .i64 a0_0, .sl 1 a0_1, .sl 3 a0_2])] []) H (K0 PP Go.Proofs.Try.f129) := by
  intros a0_0 a0_1 a0_2 H
  unfold spec_l10One.f
  kernel_rfl
theorem spec_l10One.call (k : Nat) : ∀ a0_0 a0_1 a0_2 H, callF PP orc (k + 1) spec_l10One.id [.agg [.int .i64 a0_0, .sl 1 a0_1, .sl 3 a0_2]] H = spec_l10One.f (callF PP orc k) k a0_0 a0_1 a0_2 H := by
  intros a0_0 a0_1 a0_2 H
  rw [callF_at (fn := Go.Proofs.Try.f129) (c := spec_l10One.body) Go.Proofs.Try.func129 (by kernel_rfl) (Nat.le_of_ble_eq_true (by kernel_rfl)), spec_l10One.f_eq]
  kernel_rfl
noncomputable def spec_IsRedundant.body : Code := (Go.Proofs.Try.f130).body.getD .skip
noncomputable def spec_IsRedundant.f (rec : Rec) (k : Nat) (a0_0 : Int) (a0_1 : Sl) (a0_2 : Sl) (a1 : Int) (H : Hp) : An := (rec spec_PuzzleValid.id [.agg [.int .i64 a0_0, .sl 1 a0_1, .sl 3 a0_2]] H).bind fun r1 => r1.1.toB.bind fun b2 => bif b2 then (rec spec_l1In.id [.int .i64 a1, .int .i64 0, .int .i64 (IntKind.i64.wrap ((a0_1.len : Int) - 1))] r1.2).bind fun r3 => r3.1.toB.bind fun b4 => bif b4 then bif decide (0 ≤ (a1 : Int)) && decide ((a1 : Int) < a0_1.len) then (ldI .i64 r3.2 a0_1.blk (a0_1.off + (a1 : Int).toNat * 1)).bind fun n5 => bif decide (n5 > 0) then (rec spec_l10One.id [.agg [.int .i64 a0_0, .sl 1 a0_1, .sl 3 a0_2]] r3.2).bind fun r6 => r6.1.toB.bind fun b7 => bif b7 then (rec spec_l10Without.id [.agg [.int .i64 a0_0, .sl 1 a0_1, .sl 3 a0_2], .int .i64 a1] r6.2).bind fun r8 => bif r8.1.isAgg 3 then ((r8.1.cel 0).toI .i64).bind fun n9 => ((r8.1.cel 1).toS 1).bind fun s10 => ((r8.1.cel 2).toS 3).bind fun s11 => (rec spec_l10One.id [.agg [.int .i64 n9, .sl 1 s10, .sl 3 s11]] r8.2).bind fun r12 => r12.1.toB.bind fun b13 => some (.bool b13, r12.2) else none else some (.bool false, r6.2) else some (.bool false, r3.2) else none else some (.bool false, r3.2) else some (.bool false, r1.2)
theorem spec_IsRedundant.f_eq (rec : Rec) (k : Nat) : ∀ a0_0 a0_1 a0_2 a1 H, spec_IsRedundant.f rec k a0_0 a0_1 a0_2 a1 H = ex PP (orc spec_IsRedundant.id) rec k spec_IsRedundant.body (St.of 33 [(0, .agg [.int .i64 a0_0, .sl 1 a0_1, .sl 3 a0_2]), (1, .int .i64 a1)] []) H (K0 PP Go.Proofs.Try.f130) := by
  intros a0_0 a0_1 a0_2 a1 H
  unfold spec_IsRedundant.f
  kernel_rfl
theorem spec_IsRedundant.call (k : Nat) : ∀ a0_0 a0_1 a0_2 a1 H, callF PP orc (k + 1) spec_IsRedundant.id [.agg [.int .i64 a0_0, .sl 1 a0_1, .sl 3 a0_2], .int .i64 a1] H = spec_IsRedundant.f (callF PP orc k) k a0_0 a0_1 a0_2 a1 H := by
  intros a0_0 a0_1 a0_2 a1 H
  rw [callF_at (fn := Go.Proofs.Try.f130) (c := spec_IsRedundant.body) Go.Proofs.Try.func130 (by kernel_rfl) (Nat.le_of_ble_eq_true (by kernel_rfl)), spec_IsRedundant.f_eq]
  kernel_rfl
noncomputable def spec_MakeMinimal.body : Code := (Go.Proofs.Try.f112).body.getD .skip
noncomputable def spec_MakeMinimal.j3 (rec : Rec) (k : Nat) (L2 : Int → Int → Sl → Sl → Int → Sl → Sl → Hp → An) (x5 : Int) (y2_0 : Int) (y2_1 : Sl) (y2_2 : Sl) (y4_0 : Int) (y4_1 : Sl) (y4_2 : Sl) (H : Hp) : An := L2 (IntKind.i64.wrap (x5 + 1)) y2_0 y2_1 y2_2 y4_0 y4_1 y4_2 H
noncomputable def spec_MakeMinimal.j4 (rec : Rec) (k : Nat) (y2_0 : Int) (y2_1 : Sl) (y2_2 : Sl) (y4_0 : Int) (y4_1 : Sl) (y4_2 : Sl) (H : Hp) : An := some (.tup [.agg [.int .i64 y4_0, .sl 1 y4_1, .sl 3 y4_2], .bool true], H)
noncomputable def spec_MakeMinimal.l2 (rec : Rec) (k : Nat) : Nat → Int → Int → Sl → Sl → Int → Sl → Sl → Hp → An
  | 0, _, _, _, _, _, _, _, _ => none
  | n + 1, x5, y2_0, y2_1, y2_2, y4_0, y4_1, y4_2, H => bif decide (x5 < (y4_1.len : Int)) then (rec spec_IsRedundant.id [.agg [.int .i64 y4_0, .sl 1 y4_1, .sl 3 y4_2], .int .i64 x5] H).bind fun r13 => r13.1.toB.bind fun b14 => bif b14 then (rec spec_l10Without.id [.agg [.int .i64 y4_0, .sl 1 y4_1, .sl 3 y4_2], .int .i64 x5] r13.2).bind fun r15 => bif r15.1.isAgg 3 then ((r15.1.cel 0).toI .i64).bind fun n16 => ((r15.1.cel 1).toS 1).bind fun s17 => ((r15.1.cel 2).toS 3).bind fun s18 => spec_MakeMinimal.j3 rec k (spec_MakeMinimal.l2 rec k n) x5 y2_0 y2_1 y2_2 n16 s17 s18 r15.2 else none else spec_MakeMinimal.j3 rec k (spec_MakeMinimal.l2 rec k n) x5 y2_0 y2_1 y2_2 y4_0 y4_1 y4_2 r13.2 else spec_MakeMinimal.j4 rec k y2_0 y2_1 y2_2 y4_0 y4_1 y4_2 H
noncomputable def spec_MakeMinimal.j1 (rec : Rec) (k : Nat) (y1_0 : Int) (y1_1 : Sl) (y1_2 : Sl) (y2_0 : Int) (y2_1 : Sl) (y2_2 : Sl) (H : Hp) : An := (H.read 1 y1_1).bind fun c10 => (H.appl 1 [] 0 y1_1.len c10).bind fun w9 => bif true && c10.all AV.cell then (w9.2.read 3 y1_2).bind fun c12 => (w9.2.appl 3 [] 0 y1_2.len c12).bind fun w11 => bif true && c12.all AV.cell then spec_MakeMinimal.l2 rec k k 0 y2_0 y2_1 y2_2 y1_0 w9.1 w11.1 w11.2 else none else none
noncomputable def spec_MakeMinimal.j0 (rec : Rec) (k : Nat) (x15 : Bool) (y1_0 : Int) (y1_1 : Sl) (y1_2 : Sl) (y2_0 : Int) (y2_1 : Sl) (y2_2 : Sl) (H : Hp) : An := bif x15 then some (.tup [.agg [.int .i64 0, .sl 1 Sl.none, .sl 3 Sl.none], .bool false], H) else spec_MakeMinimal.j1 rec k y1_0 y1_1 y1_2 y2_0 y2_1 y2_2 H
noncomputable def spec_MakeMinimal.f (rec : Rec) (k : Nat) (a0_0 : Int) (a0_1 : Sl) (a0_2 : Sl) (H : Hp) : An := (rec spec_l1OwnPuzzle.id [.agg [.int .i64 a0_0, .sl 1 a0_1, .sl 3 a0_2]] H).bind fun r1 => bif r1.1.isAgg 3 then ((r1.1.cel 0).toI .i64).bind fun n2 => ((r1.1.cel 1).toS 1).bind fun s3 => ((r1.1.cel 2).toS 3).bind fun s4 => (rec spec_PuzzleValid.id [.agg [.int .i64 n2, .sl 1 s3, .sl 3 s4]] r1.2).bind fun r5 => r5.1.toB.bind fun b6 => bif !b6 then spec_MakeMinimal.j0 rec k true n2 s3 s4 0 Sl.none Sl.none r5.2 else (rec spec_l10One.id [.agg [.int .i64 n2, .sl 1 s3, .sl 3 s4]] r5.2).bind fun r7 => r7.1.toB.bind fun b8 => spec_MakeMinimal.j0 rec k (!b8) n2 s3 s4 0 Sl.none Sl.none r7.2 else none
theorem spec_MakeMinimal.j3_eq (rec : Rec) (k : Nat) (n2 : Nat) (L2 : Int → Int → Sl → Sl → Int → Sl → Sl → Hp → An) (hL2 : ∀ x5 y2_0 y2_1 y2_2 y4_0 y4_1 y4_2 H, L2 x5 y2_0 y2_1 y2_2 y4_0 y4_1 y4_2 H = iter ((orc spec_MakeMinimal.id).at (lbody (sub spec_MakeMinimal.body [1, 1, 1, 1, 0, 1, 0]))) (ex PP (orc spec_MakeMinimal.id) rec k (lbody (sub spec_MakeMinimal.body [1, 1, 1, 1, 0, 1, 0]))) (kAt PP (orc spec_MakeMinimal.id) rec k spec_MakeMinimal.body [1, 1, 1, 1, 0, 1, 0] [] (K0 PP Go.Proofs.Try.f112)) n2 (St.of 42 [(2, .lp 2 0), (4, .lp 4 0), (5, .int .i64 x5)] [(2, [.int .i64 y2_0, .sl 1 y2_1, .sl 3 y2_2]), (4, [.int .i64 y4_0, .sl 1 y4_1, .sl 3 y4_2])]) H) : ∀ x5 y2_0 y2_1 y2_2 y4_0 y4_1 y4_2 H, spec_MakeMinimal.j3 rec k L2 x5 y2_0 y2_1 y2_2 y4_0 y4_1 y4_2 H = ex PP (orc spec_MakeMinimal.id) rec k (sub spec_MakeMinimal.body [1, 1, 1, 1, 0, 1, 0, 0, 1, 1]) (St.of 42 [(2, .lp 2 0), (4, .lp 4 0), (5, .int .i64 x5)] [(2, [.int .i64 y2_0, .sl 1 y2_1, .sl 3 y2_2]), (4, [.int .i64 y4_0, .sl 1 y4_1, .sl 3 y4_2])]) H (kAt PP (orc spec_MakeMinimal.id) rec k spec_MakeMinimal.body [1, 1, 1, 1, 0, 1, 0, 0, 1, 1] [n2] (K0 PP Go.Proofs.Try.f112)) := by
  intros x5 y2_0 y2_1 y2_2 y4_0 y4_1 y4_2 H
  simp only [spec_MakeMinimal.j3, hL2, -eq_self]
  kernel_rfl
theorem spec_MakeMinimal.j4_eq (rec : Rec) (k : Nat) : ∀ y2_0 y2_1 y2_2 y4_0 y4_1 y4_2 H, spec_MakeMinimal.j4 rec k y2_0 y2_1 y2_2 y4_0 y4_1 y4_2 H = ex PP (orc spec_MakeMinimal.id) rec k (sub spec_MakeMinimal.body [1, 1, 1, 1, 1]) (St.of 42 [(2, .lp 2 0), (4, .lp 4 0)] [(2, [.int .i64 y2_0, .sl 1 y2_1, .sl 3 y2_2]), (4, [.int .i64 y4_0, .sl 1 y4_1, .sl 3 y4_2])]) H (kAt PP (orc spec_MakeMinimal.id) rec k spec_MakeMinimal.body [1, 1, 1, 1, 1] [] (K0 PP Go.Proofs.Try.f112)) := by
  intros y2_0 y2_1 y2_2 y4_0 y4_1 y4_2 H
  simp only [spec_MakeMinimal.j4, -eq_self]
  kernel_rfl
theorem spec_MakeMinimal.l2_eq (rec : Rec) (k : Nat) : ∀ n x5 y2_0 y2_1 y2_2 y4_0 y4_1 y4_2 H, spec_MakeMinimal.l2 rec k n x5 y2_0 y2_1 y2_2 y4_0 y4_1 y4_2 H = iter ((orc spec_MakeMinimal.id).at (lbody (sub spec_MakeMinimal.body [1, 1, 1, 1, 0, 1, 0]))) (ex PP (orc spec_MakeMinimal.id) rec k (lbody (sub spec_MakeMinimal.body [1, 1, 1, 1, 0, 1, 0]))) (kAt PP (orc spec_MakeMinimal.id) rec k spec_MakeMinimal.body [1, 1, 1, 1, 0, 1, 0] [] (K0 PP Go.Proofs.Try.f112)) n (St.of 42 [(2, .lp 2 0), (4, .lp 4 0), (5, .int .i64 x5)] [(2, [.int .i64 y2_0, .sl 1 y2_1, .sl 3 y2_2]), (4, [.int .i64 y4_0, .sl 1 y4_1, .sl 3 y4_2])]) H := by
  intro n
  induction n with
  | zero => intros; rfl
  | succ n ih =>
    intros x5 y2_0 y2_1 y2_2 y4_0 y4_1 y4_2 H
    simp only [spec_MakeMinimal.l2, spec_MakeMinimal.j3, spec_MakeMinimal.j4, ih, -eq_self]
    kernel_rfl
theorem spec_MakeMinimal.j1_eq (rec : Rec) (k : Nat) : ∀ y1_0 y1_1 y1_2 y2_0 y2_1 y2_2 H, spec_MakeMinimal.j1 rec k y1_0 y1_1 y1_2 y2_0 y2_1 y2_2 H = ex PP (orc spec_MakeMinimal.id) rec k (sub spec_MakeMinimal.body [1, 1, 1]) (St.of 42 [(1, .lp 1 0), (2, .lp 2 0)] [(1, [.int .i64 y1_0, .sl 1 y1_1, .sl 3 y1_2]), (2, [.int .i64 y2_0, .sl 1 y2_1, .sl 3 y2_2])]) H (kAt PP (orc spec_MakeMinimal.id) rec k spec_MakeMinimal.body [1, 1, 1] [] (K0 PP Go.Proofs.Try.f112)) := by
  intros y1_0 y1_1 y1_2 y2_0 y2_1 y2_2 H
  simp only [spec_MakeMinimal.j1, spec_MakeMinimal.l2_eq rec k, -eq_self]
  kernel_rfl
theorem spec_MakeMinimal.j0_eq (rec : Rec) (k : Nat) : ∀ x15 y1_0 y1_1 y1_2 y2_0 y2_1 y2_2 H, spec_MakeMinimal.j0 rec k x15 y1_0 y1_1 y1_2 y2_0 y2_1 y2_2 H = ex PP (orc spec_MakeMinimal.id) rec k (sub spec_MakeMinimal.body [1, 1, 0, 1]) (St.of 42 [(1, .lp 1 0), (2, .lp 2 0), (15, .bool x15)] [(1, [.int .i64 y1_0, .sl 1 y1_1, .sl 3 y1_2]), (2, [.int .i64 y2_0, .sl 1 y2_1, .sl 3 y2_2])]) H (kAt PP (orc spec_MakeMinimal.id) rec k spec_MakeMinimal.body [1, 1, 0, 1] [] (K0 PP Go.Proofs.Try.f112)) := by
  intros x15 y1_0 y1_1 y1_2 y2_0 y2_1 y2_2 H
  simp only [spec_MakeMinimal.j0, spec_MakeMinimal.j1, spec_MakeMinimal.l2_eq rec k, -eq_self]
  kernel_rfl
theorem spec_MakeMinimal.f_eq (rec : Rec) (k : Nat) : ∀ a0_0 a0_1 a0_2 H, spec_MakeMinimal.f rec k a0_0 a0_1 a0_2 H = ex PP (orc spec_MakeMinimal.id) rec k spec_MakeMinimal.body (St.of 42 [(0, .agg [.int .i64 a0_0, .sl 1 a0_1, .sl 3 a0_2])] []) H (K0 PP Go.Proofs.Try.f112) := by
  intros a0_0 a0_1 a0_2 H
  simp only [spec_MakeMinimal.f, spec_MakeMinimal.j0, spec_MakeMinimal.j1, spec_MakeMinimal.l2_eq rec k, -eq_self]
  kernel_rfl
theorem spec_MakeMinimal.call (k : Nat) : ∀ a0_0 a0_1 a0_2 H, callF PP orc (k + 1) spec_MakeMinimal.id [.agg [.int .i64 a0_0, .sl 1 a0_1, .sl 3 a0_2]] H = spec_MakeMinimal.f (callF PP orc k) k a0_0 a0_1 a0_2 H := by
  intros a0_0 a0_1 a0_2 H
  rw [callF_at (fn := Go.Proofs.Try.f112) (c := spec_MakeMinimal.body) Go.Proofs.Try.func112 (by kernel_rfl) (Nat.le_of_ble_eq_true (by kernel_rfl)), spec_MakeMinimal.f_eq]
  kernel_rfl
end Go.Proofs.Ytjojhbdghhmeeaa.Rp
/- The ways in which a rule holds, and the masks of a rule: the model's side of the program. No conditions. -/
set_option linter.unusedVariables false
set_option linter.unusedSimpArgs false
namespace Go.Proofs.Ytjojhbdghhmeeaa.Rp
open Go Go.RowKit Go.Proofs.Ytjojhbdghhmeeaa.Ab

/-! ### More of the kit -/
theorem mem_getD {l : List Int} {i : Nat} (h : i < l.length) : l.getD i 0 ∈ l := by
  rw [List.getD_eq_getElem?_getD, List.getElem?_eq_getElem h]; exact List.getElem_mem h
theorem own_set1 {H0 H : Hp} {s : Sl} {l : List Int} {k : IntKind} (h : Own 1 H0 H s (l.map (.int k))) (g : H0 <+: H) (i : Nat) (hi : i < l.length) (n : Int) :
    ∃ H', H.sto s.blk (s.off + i * 1) [.int k n] = some H' ∧ H0 <+: H' ∧ Own 1 H0 H' s ((l.set i n).map (.int k)) ∧ Adv s.blk H H' := by
  obtain ⟨H', a1, a2, a3, a4, a5⟩ := own_set h g i hi n
  exact ⟨H', by rw [Nat.mul_one]; exact a1, a2, a3, ⟨a4, by omega⟩⟩
theorem stable_ok {H H' : Hp} {k : IntKind} {s : Sl} {l : List Int} (h : Reads k H s l) (h' : Reads k H' s l) {i : Nat} (hi : i < l.length) : stableB H H' s.blk (s.off + i * 1) 1 = true := by
  unfold stableB
  have e1 := h.cell i hi
  have e2 := h'.cell i hi
  simp [e1, e2, AV.same]
theorem own_lt' {sz : Nat} {H0 H : Hp} {s : Sl} {c : List AV} (h : Own sz H0 H s c) : s.blk < H.length := (List.getElem?_eq_some_iff.1 h.get).1
/-- A copy of a list with a number behind it. -/
theorem copy_app {H : Hp} {s : Sl} {l : List Int} (hs : Reads .i64 H s l) (hl : l.length ≤ 1000) (v : Int) :
    ∃ H', (H ++ [some (Blk.mk false (l.map (.int .i64)))]).app 1 (Sl.mk false H.length 0 l.length) 1 [.int .i64 v] = some (Sl.mk false (H.length + 1) 0 (l.length + 1), H') ∧ H <+: H' ∧ Own 1 H H' (Sl.mk false (H.length + 1) 0 (l.length + 1)) ((l ++ [v]).map (.int .i64)) := by
  obtain ⟨H', a1, a2, a3, a4, a5⟩ := own_app1 (own_new 1 H (l.map (.int .i64)) l.length (by simp)) (List.prefix_append _ _) v (by simp only; omega)
  exact ⟨H', by simpa using a1, a2, by simpa using a3⟩

/-! ### Lengths and bounds of the model -/
def Ms (l : List Int) : Prop := ∀ m ∈ l, M m
theorem Ms.at {l : List Int} (h : Ms l) (i : Nat) : M (l.getD i 0) := by
  by_cases hi : i < l.length
  · exact h _ (mem_getD hi)
  · rw [List.getD_eq_getElem?_getD, List.getElem?_eq_none (by omega)]; exact ⟨by decide, by decide⟩
theorem Ms.set {l : List Int} (h : Ms l) (i : Nat) {v : Int} (hv : M v) : Ms (l.set i v) := fun m hm => by
  rcases List.mem_or_eq_of_mem_set hm with hm | hm
  · exact h m hm
  · rw [hm]; exact hv
theorem orFrom_ok {vals : List Int} (hv : Vals vals) : ∀ (j i : Nat) {fl : List Int}, Ms fl → Ms (orFrom vals fl i j) ∧ (orFrom vals fl i j).length = fl.length
  | 0, i, fl, h => ⟨h, rfl⟩
  | j + 1, i, fl, h => by
    have := orFrom_ok hv j (i + 1) (fl := fl.set i (mOr (fl.getD i 0) (pw (vals.getD i 0)))) (h.set i (M.or (h.at i) (M.pw (hv.at i).1 (hv.at i).2)))
    exact ⟨this.1, by rw [orFrom, this.2, List.length_set]⟩
theorem Vals.app {l : List Int} (h : Vals l) (hl : l.length < 4) {v : Int} (hv : 0 ≤ v ∧ v ≤ 4) : Vals (l ++ [v]) :=
  ⟨by simp; omega, fun x hx => by
    rcases List.mem_append.1 hx with hx | hx
    · exact h.2 x hx
    · simp at hx; rw [hx]; exact hv⟩
theorem ways_ok (h : List Int → Bool) : ∀ (ms vals fl : List Int), Vals vals → vals.length + ms.length ≤ 4 → Ms fl → Ms (ways h ms vals fl) ∧ (ways h ms vals fl).length = fl.length
  | [], vals, fl, hv, _, hf => by
    rw [ways]
    split
    · exact orFrom_ok hv _ _ hf
    · exact ⟨hf, rfl⟩
  | m :: ms, vals, fl, hv, hl, hf => by
    rw [ways]
    have key : ∀ (l : List Int) (fl : List Int), (∀ v ∈ l, 1 ≤ v ∧ v ≤ 4) → Ms fl → Ms (l.foldl (fun f v => ways h ms (vals ++ [v]) f) fl) ∧ (l.foldl (fun f v => ways h ms (vals ++ [v]) f) fl).length = fl.length := by
      intro l
      induction l with
      | nil => intro fl _ hf; exact ⟨hf, rfl⟩
      | cons v l ih =>
        intro fl hl' hf
        have hv' := hl' v (by simp)
        simp only [List.length_cons] at hl
        have := ways_ok h ms (vals ++ [v]) fl (hv.app (by omega) ⟨by omega, hv'.2⟩) (by simp; omega) hf
        have h2 := ih _ (fun x hx => hl' x (by simp [hx])) this.1
        exact ⟨h2.1, h2.2.trans this.2⟩
    exact key _ fl (fun v hv => maskVals_mem hv) hf

/-! ### spec.l4Ways -/
theorem l4Ways_l0 (rec : Rec) (k : Nat) {H0 : Hp} {vs fs : Sl} {vals : List Int} (hv : Vals vals) {n : Nat} (hn : n = vals.length) :
    ∀ (j i fuel : Nat) (H : Hp) (fl : List Int), i + j = n → j < fuel → H0 <+: H → Reads .i64 H vs vals → vs.blk ≠ fs.blk → Ms fl → n ≤ fl.length → Own 1 H0 H fs (fl.map (.int .i64)) →
      ∃ H', spec_l4Ways.l0 rec k fuel vs fs n i H = some (.tup [], H') ∧ H0 <+: H' ∧ Adv fs.blk H H' ∧ Own 1 H0 H' fs ((orFrom vals fl i j).map (.int .i64)) := by
  have hl := hv.1
  intro j
  induction j with
  | zero =>
    intro i fuel H fl hi hf hp hs hne hm hfl ho
    obtain ⟨fuel, rfl⟩ : ∃ q, fuel = q + 1 := ⟨fuel - 1, by omega⟩
    exact ⟨H, by simp (disch := omega) only [spec_l4Ways.l0, dt, df, bt, bf, nt, nf, Bool.and_self, Bool.not_true, Bool.not_false, cond_true, cond_false, Int.toNat_natCast, Int.toNat_zero, Int.toNat_one, Option.bind_some, wr, AV.toB, AV.toI, AV.toS, if_true], hp, Adv.refl _ _, ho⟩
  | succ j ih =>
    intro i fuel H fl hi hf hp hs hne hm hfl ho
    obtain ⟨fuel, rfl⟩ : ∃ q, fuel = q + 1 := ⟨fuel - 1, by omega⟩
    have hfs : fs.len = fl.length := by have := ho.len; simpa using this
    have hvl := hs.len
    obtain ⟨v0, v1⟩ := hv.at i
    obtain ⟨H1, a1, a2, a3, a4⟩ := own_set1 ho hp i (by omega) (mOr (fl.getD i 0) (pw (vals.getD i 0)))
    obtain ⟨H', b1, b2, b3, b4⟩ := ih (i + 1) fuel H1 _ (by omega) (by omega) a2 (a4.reads hne hs) hne (hm.set i (M.or (hm.at i) (M.pw v0 v1))) (by simpa using hfl) a3
    push_cast at b1
    refine ⟨H', ?_, b2, a4.trans b3, b4⟩
    simp (disch := omega) only [spec_l4Ways.l0, dt, df, bt, bf, nt, nf, Bool.and_self, Bool.not_true, Bool.not_false, cond_true, cond_false, Int.toNat_natCast, Int.toNat_zero, Int.toNat_one, Option.bind_some, wr, AV.toB, AV.toI, AV.toS, if_true, rdn (own_reads ho), rdn hs, iN, m_shl v0, m_or (hm.at i) (M.pw v0 v1), a1, b1]

/-- What is asked of the lists of a rule. -/
structure RuleAt (H : Hp) (cs ms : Sl) (kind : Int) (cells masks : List Int) : Prop where
  rc : Reads .i64 H cs cells
  rm : Reads .i64 H ms masks
  cl : cells.length ≤ 4
  ci : ∀ c ∈ cells, 0 ≤ c ∧ c < (masks.length : Int)
  ml : masks.length ≤ 1000
  k2 : (kind = 1 ∨ kind = 2 ∨ kind = 3) ∨ 2 ≤ cells.length

theorem l4Ways_ok {kind value : Int} {cs ms fs : Sl} {H0 : Hp} {cells masks : List Int} (hr : RuleAt H0 cs ms kind cells masks) :
    ∀ (rem k : Nat), 2000010 + rem ≤ k → ∀ (H : Hp) (vs : Sl) (vals fl : List Int), vals.length + rem = cells.length → H0 <+: H → Reads .i64 H vs vals → vs.blk ≠ fs.blk → Vals vals → fl.length = cells.length → Ms fl → Own 1 H0 H fs (fl.map (.int .i64)) →
      ∃ H', callF PP orc k spec_l4Ways.id [.agg [.int .i64 kind, .sl 1 cs, .int .i64 value], .sl 1 ms, .sl 1 vs, .sl 1 fs] H = some (.tup [], H') ∧ H0 <+: H' ∧ Adv fs.blk H H' ∧ Own 1 H0 H' fs ((ways (holdsV kind value) (ownOf masks (cells.drop vals.length)) vals fl).map (.int .i64)) := by
  have hcl := hr.cl
  intro rem
  induction rem with
  | zero =>
    intro k hk H vs vals fl hl hp hs hne hv hfl hm ho
    obtain ⟨k, rfl⟩ : ∃ q, k = q + 1 := ⟨k - 1, by omega⟩
    rw [spec_l4Ways.call]
    have hc := hr.rc.len
    have hvl := hs.len
    have k2 := hr.k2
    have h1 := l4Holds_full (show 2000 ≤ k by omega) (kind := kind) (value := value) (cs := cs) hs hv (by omega)
    have e : ownOf masks (cells.drop vals.length) = [] := by rw [List.drop_eq_nil_of_le (by omega)]; rfl
    rw [e, ways]
    cases hh : holdsV kind value vals with
    | true =>
      rw [hh] at h1
      obtain ⟨H', b1, b2, b3, b4⟩ := l4Ways_l0 (callF PP orc k) k hv rfl vals.length 0 k H fl (by omega) (by omega) hp hs hne hm (by omega) ho
      refine ⟨H', ?_, b2, b3, b4⟩
      simp only [Int.natCast_zero] at b1
      simp (disch := omega) only [spec_l4Ways.f, dt, df, bt, bf, nt, nf, Bool.and_self, Bool.not_true, Bool.not_false, cond_true, cond_false, Int.toNat_natCast, Int.toNat_zero, Int.toNat_one, Option.bind_some, wr, AV.toB, AV.toI, AV.toS, if_true, h1, hvl, b1]
    | false =>
      rw [hh] at h1
      refine ⟨H, ?_, hp, Adv.refl _ _, by simpa using ho⟩
      simp (disch := omega) only [spec_l4Ways.f, dt, df, bt, bf, nt, nf, Bool.and_self, Bool.not_true, Bool.not_false, cond_true, cond_false, Int.toNat_natCast, Int.toNat_zero, Int.toNat_one, Option.bind_some, wr, AV.toB, AV.toI, AV.toS, if_true, h1]
  | succ rem ih =>
    intro k hk H vs vals fl hl hp hs hne hv hfl hm ho
    obtain ⟨k, rfl⟩ : ∃ q, k = q + 1 := ⟨k - 1, by omega⟩
    rw [spec_l4Ways.call]
    have hc := hr.rc.len
    have hml := hr.rm.len
    have hvl := hs.len
    have hcv : vals.length < cells.length := by omega
    obtain ⟨c0, c1⟩ := hr.ci _ (mem_getD hcv)
    have hfb := own_lt' ho
    obtain ⟨ls, H1, a1, a2, a3⟩ := MaskValues_ok (show 2000000 ≤ k by omega) (masks.getD (cells.getD vals.length 0).toNat 0) H
    have hd : ownOf masks (cells.drop vals.length) = masks.getD (cells.getD vals.length 0).toNat 0 :: ownOf masks (cells.drop (vals.length + 1)) := by
      rw [List.drop_eq_getElem_cons hcv]
      have : cells.getD vals.length 0 = cells[vals.length] := by simp [List.getD_eq_getElem?_getD, hcv]
      rw [this]; rfl
    rw [hd, ways]
    generalize hmv : maskVals (masks.getD (cells.getD vals.length 0).toNat 0) = L at a3 ⊢
    have hL : ∀ v ∈ L, 1 ≤ v ∧ v ≤ 4 := fun v h => maskVals_mem (hmv ▸ h)
    have hL4 : L.length ≤ 4 := by
      rw [← hmv]; unfold maskVals; split
      · simp only [mvFrom]; repeat' split
        all_goals simp
      · simp
    have hlb : ls.blk ≠ fs.blk := by have := a3.blk; omega
    have loop : ∀ (j i fuel : Nat) (Hc : Hp) (fl : List Int), i + j = L.length → j < fuel → H0 <+: Hc → Adv fs.blk H1 Hc → fl.length = cells.length → Ms fl → Own 1 H0 Hc fs (fl.map (.int .i64)) →
        ∃ H', spec_l4Ways.l1 (callF PP orc k) k fuel ms vs fs ls i kind cs value Hc = some (.tup [], H') ∧ H0 <+: H' ∧ Adv fs.blk Hc H' ∧ Own 1 H0 H' fs (((L.drop i).foldl (fun f v => ways (holdsV kind value) (ownOf masks (cells.drop (vals.length + 1))) (vals ++ [v]) f) fl).map (.int .i64)) := by
      intro j
      induction j with
      | zero =>
        intro i fuel Hc fl hi hf hp' hadv hfl hm ho
        obtain ⟨fuel, rfl⟩ : ∃ q, fuel = q + 1 := ⟨fuel - 1, by omega⟩
        have hll := (own_reads a3).len
        rw [show L.drop i = [] from List.drop_eq_nil_of_le (by omega)]
        exact ⟨Hc, by simp (disch := omega) only [spec_l4Ways.l1, dt, df, bt, bf, nt, nf, Bool.and_self, Bool.not_true, Bool.not_false, cond_true, cond_false, Int.toNat_natCast, Int.toNat_zero, Int.toNat_one, Option.bind_some, wr, AV.toB, AV.toI, AV.toS, if_true], hp', Adv.refl _ _, ho⟩
      | succ j ihj =>
        intro i fuel Hc fl hi hf hp' hadv hfl hm ho
        obtain ⟨fuel, rfl⟩ : ∃ q, fuel = q + 1 := ⟨fuel - 1, by omega⟩
        have hll := (own_reads a3).len
        have hi2 : i < L.length := by omega
        have rl := hadv.reads hlb (own_reads a3)
        have rv := hadv.reads hne (pf_reads a2 hs)
        obtain ⟨w0, w1⟩ := hL _ (mem_getD hi2)
        obtain ⟨H2, d1, d2, d3⟩ := copy_app rv (by omega) (L.getD i 0)
        have hst := stable_ok rl (pf_reads (List.prefix_append Hc [some (Blk.mk false (vals.map (.int .i64)))]) rl) hi2
        have hw := ways_ok (holdsV kind value) (ownOf masks (cells.drop (vals.length + 1))) (vals ++ [L.getD i 0]) fl (hv.app (by omega) ⟨by omega, w1⟩) (by simp [ownOf]; omega) hm
        obtain ⟨H3, e1, e2, e3, e4⟩ := ih k (by omega) H2 (Sl.mk false (Hc.length + 1) 0 (vals.length + 1)) (vals ++ [L.getD i 0]) fl (by simp; omega) (hp'.trans d2) (own_reads d3) (by have := own_lt' ho; simp only; omega) (hv.app (by omega) ⟨by omega, w1⟩) hfl hm (own_pf ho d2)
        rw [List.length_append, List.length_singleton] at e4
        have adv3 : Adv fs.blk Hc H3 := (pf_adv d2).trans e3
        obtain ⟨H', f1, f2, f3, f4⟩ := ihj (i + 1) fuel H3 _ (by omega) (by omega) e2 (hadv.trans adv3) (by rw [hw.2]; exact hfl) hw.1 e4
        push_cast at f1
        have hdl : L.drop i = L.getD i 0 :: L.drop (i + 1) := by
          rw [List.drop_eq_getElem_cons hi2, List.getD_eq_getElem?_getD, List.getElem?_eq_getElem hi2]; rfl
        rw [hdl, List.foldl_cons]
        refine ⟨H', ?_, f2, adv3.trans f3, f4⟩
        simp (disch := omega) only [spec_l4Ways.l1, dt, df, bt, bf, nt, nf, Bool.and_self, Bool.not_true, Bool.not_false, cond_true, cond_false, Int.toNat_natCast, Int.toNat_zero, Int.toNat_one, Option.bind_some, wr, AV.toB, AV.toI, AV.toS, if_true, rdn rl, read_ok rv, hvl, appl_ok, cells_ok, hst, d1, e1, f1]
    obtain ⟨H', f1, f2, f3, f4⟩ := loop L.length 0 k H1 fl (by omega) (by omega) (hp.trans a2) (Adv.refl _ _) hfl hm (own_pf ho a2)
    refine ⟨H', ?_, f2, (pf_adv a2).trans f3, f4⟩
    simp only [Int.natCast_zero] at f1
    simp (disch := omega) only [spec_l4Ways.f, dt, df, bt, bf, nt, nf, Bool.and_self, Bool.not_true, Bool.not_false, cond_true, cond_false, Int.toNat_natCast, Int.toNat_zero, Int.toNat_one, Option.bind_some, wr, AV.toB, AV.toI, AV.toS, if_true, hvl, rdn (pf_reads hp hr.rc), rdn (pf_reads hp hr.rm), a1, f1]
end Go.Proofs.Ytjojhbdghhmeeaa.Rp
