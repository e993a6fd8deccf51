/- The cells of a line, as the program makes them. No conditions. -/
import Derived.Test.YtncmneliinbjdaaCc
set_option linter.unusedVariables false
set_option linter.unusedSimpArgs false
namespace Go.Proofs.Ytncmneliinbjdaa.Rp
open Go Go.RowKit Go.Proofs.Ytncmneliinbjdaa.Ab

def lineCell (n line : Int) (i : Nat) : Int := if line < n then line * n + (i : Int) else (i : Int) * n + line - n
def lineCells (n line : Int) : List Int := if (2 ≤ n ∧ n ≤ 4) ∧ 0 ≤ line ∧ line < 2 * n then (List.range n.toNat).map (lineCell n line) else []

theorem line_wraps {n line : Int} (hn : 2 ≤ n ∧ n ≤ 4) (hl : 0 ≤ line ∧ line < 2 * n) (i : Nat) (hi : (i : Int) < n) :
    IntKind.i64.wrap (IntKind.i64.wrap (line * n) + (i : Int)) = line * n + (i : Int) ∧ IntKind.i64.wrap (IntKind.i64.wrap (IntKind.i64.wrap ((i : Int) * n) + line) - n) = (i : Int) * n + line - n := by
  have : n = 2 ∨ n = 3 ∨ n = 4 := by omega
  rcases this with rfl | rfl | rfl
  all_goals
    constructor
    · rw [wr (n := line * _) (by omega) (by omega), wr (by omega) (by omega)]
    · rw [wr (n := (i : Int) * _) (by omega) (by omega), wr (n := (i : Int) * _ + line) (by omega) (by omega), wr (by omega) (by omega)]

theorem range_map_succ (f : Nat → Int) (i : Nat) : (List.range i).map f ++ [f i] = (List.range (i + 1)).map f := by
  rw [List.range_succ, List.map_append]; rfl

theorem implLineCells_l2 (rec : Rec) (k : Nat) {H0 : Hp} {n line : Int} {N : Nat} (hN : n = (N : Int)) (hn : 2 ≤ n ∧ n ≤ 4) (hl : 0 ≤ line ∧ line < 2 * n) :
    ∀ (j i m : Nat) (H : Hp) (t : Sl), i + j = N → j < m → H0 <+: H → Own 1 H0 H t (((List.range i).map (lineCell n line)).map (.int .i64)) →
      ∃ t' H', impl_LineCells.l2 rec k m n line t n i H = some (.sl 1 t', H') ∧ H0 <+: H' ∧ Own 1 H0 H' t' (((List.range N).map (lineCell n line)).map (.int .i64)) := by
  intro j
  induction j with
  | zero =>
    intro i m H t hi hm hp ho
    obtain ⟨m, rfl⟩ : ∃ q, m = q + 1 := ⟨m - 1, by omega⟩
    have : i = N := by omega
    subst this
    exact ⟨t, H, by simp [impl_LineCells.l2, impl_LineCells.j4, hN], hp, ho⟩
  | succ j ih =>
    intro i m H t hi hm hp ho
    obtain ⟨m, rfl⟩ : ∃ q, m = q + 1 := ⟨m - 1, by omega⟩
    have hi2 : (i : Int) < n := by omega
    have hlen : t.len = i := by have := ho.len; simpa using this
    obtain ⟨w1, w2⟩ := line_wraps hn hl i hi2
    have h4 := wrs (i := i) (by omega)
    obtain ⟨H', a1, a2, a3, a4, a5⟩ := own_app1 ho hp (lineCell n line i) (by omega)
    rw [range_map_succ] at a3
    obtain ⟨t', H2, b1, b2, b3⟩ := ih (i + 1) m H' _ (by omega) (by omega) a2 a3
    refine ⟨t', H2, ?_, b2, b3⟩
    push_cast at b1
    unfold lineCell at a1
    by_cases c : line < n
    · rw [if_pos c] at a1
      simp only [impl_LineCells.l2, impl_LineCells.j3, hi2, c, decide_true, cond_true, w1, a1, Option.bind_some, h4, b1]
    · rw [if_neg c] at a1
      simp only [impl_LineCells.l2, impl_LineCells.j3, hi2, c, decide_true, decide_false, cond_true, cond_false, w2, a1, Option.bind_some, h4, b1]

theorem implLineCells_ok {k : Nat} (hk : 2000000 ≤ k) (n line : Int) (H : Hp) :
    ∃ t H', callF PP orc k impl_LineCells.id [.int .i64 n, .int .i64 line] H = some (.sl 1 t, H') ∧ H <+: H' ∧ Reads .i64 H' t (lineCells n line) := by
  obtain ⟨k, rfl⟩ : ∃ m, k = m + 1 := ⟨k - 1, by omega⟩
  rw [impl_LineCells.call]
  unfold lineCells
  by_cases c : 2 ≤ n ∧ n ≤ 4
  · have hw : IntKind.i64.wrap (2 * n) = 2 * n := wr (by omega) (by omega)
    by_cases c1 : line < 0
    · exact ⟨Sl.none, H, by simp [impl_LineCells.f, sizeOk_ok (show 1 ≤ k by omega), c, AV.toB, c1, impl_LineCells.j0], List.prefix_refl _, by rw [if_neg (by omega)]; exact reads_nil rfl⟩
    · by_cases c2 : line < 2 * n
      · obtain ⟨N, hN⟩ := Int.eq_ofNat_of_zero_le (show 0 ≤ n by omega)
        obtain ⟨t', H2, b1, b2, b3⟩ := implLineCells_l2 (callF PP orc k) k hN c ⟨by omega, c2⟩ N 0 k (H ++ [some (Blk.mk false [])]) (Sl.mk false H.length 0 0) (by omega) (by omega) (List.prefix_append _ _) (own_new 1 H [] 0 rfl)
        refine ⟨t', H2, ?_, b2, ?_⟩
        · have c3 : ¬ 2 * n ≤ line := by omega
          simp only [impl_LineCells.f, sizeOk_ok (show 1 ≤ k by omega), c, AV.toB, c1, impl_LineCells.j0, impl_LineCells.j1, hw, Option.bind_some]
          rw [show decide (line ≥ 2 * n) = false by simp; omega]
          simp only [and_self, decide_true, Bool.not_true, cond_false, decide_false]
          rw [if_pos (by omega)]
          simpa using b1
        · rw [if_pos ⟨c, by omega, c2⟩, show n.toNat = N by omega]
          exact own_reads b3
      · refine ⟨Sl.none, H, ?_, List.prefix_refl _, by rw [if_neg (by omega)]; exact reads_nil rfl⟩
        have : decide (line ≥ 2 * n) = true := by simp; omega
        simp only [impl_LineCells.f, sizeOk_ok (show 1 ≤ k by omega), c, AV.toB, c1, impl_LineCells.j0, hw, this, Option.bind_some, and_self, decide_true, Bool.not_true, cond_false, decide_false, cond_true]
  · exact ⟨Sl.none, H, by simp [impl_LineCells.f, sizeOk_ok (show 1 ≤ k by omega), c, AV.toB, impl_LineCells.j0], List.prefix_refl _, by rw [if_neg (by omega)]; exact reads_nil rfl⟩

theorem specLineCells_l0 {k : Nat} (hk : 1 ≤ k) {H0 : Hp} {n line : Int} {N : Nat} (hN : n = (N : Int)) (hn : 2 ≤ n ∧ n ≤ 4) (hl : 0 ≤ line ∧ line < 2 * n) :
    ∀ (j i m : Nat) (H : Hp) (t : Sl), i + j = N → j < m → H0 <+: H → Own 1 H0 H t (((List.range i).map (lineCell n line)).map (.int .i64)) →
      ∃ t' H', spec_LineCells.l0 (callF PP orc k) k m n line t i H = some (.sl 1 t', H') ∧ H0 <+: H' ∧ Own 1 H0 H' t' (((List.range N).map (lineCell n line)).map (.int .i64)) := by
  intro j
  induction j with
  | zero =>
    intro i m H t hi hm hp ho
    obtain ⟨m, rfl⟩ : ∃ q, m = q + 1 := ⟨m - 1, by omega⟩
    have : i = N := by omega
    subst this
    exact ⟨t, H, by simp [spec_LineCells.l0, spec_LineCells.j1, spec_LineCells.j3, hN], hp, ho⟩
  | succ j ih =>
    intro i m H t hi hm hp ho
    obtain ⟨m, rfl⟩ : ∃ q, m = q + 1 := ⟨m - 1, by omega⟩
    have hi2 : (i : Int) < n := by omega
    have hlen : t.len = i := by have := ho.len; simpa using this
    obtain ⟨w1, w2⟩ := line_wraps hn hl i hi2
    have h4 := wrs (i := i) (by omega)
    have hw : IntKind.i64.wrap (2 * n) = 2 * n := wr (by omega) (by omega)
    have hw2 : IntKind.i64.wrap (2 * n - 1) = 2 * n - 1 := wr (by omega) (by omega)
    have c3 : 0 ≤ line ∧ line ≤ 2 * n - 1 := by omega
    obtain ⟨H', a1, a2, a3, a4, a5⟩ := own_app1 ho hp (lineCell n line i) (by omega)
    rw [range_map_succ] at a3
    obtain ⟨t', H2, b1, b2, b3⟩ := ih (i + 1) m H' _ (by omega) (by omega) a2 a3
    refine ⟨t', H2, ?_, b2, b3⟩
    push_cast at b1
    unfold lineCell at a1
    by_cases c : line < n
    · rw [if_pos c] at a1
      simp only [spec_LineCells.l0, spec_LineCells.j1, spec_LineCells.j2, spec_LineCells.j4, l1In_ok hk, AV.toB, hn, hw, hw2, c3, and_self, hi2, c, decide_true, cond_true, w1, a1, Option.bind_some, h4, b1]
    · rw [if_neg c] at a1
      simp only [spec_LineCells.l0, spec_LineCells.j1, spec_LineCells.j2, spec_LineCells.j4, l1In_ok hk, AV.toB, hn, hw, hw2, c3, and_self, hi2, c, decide_true, decide_false, cond_true, cond_false, w2, a1, Option.bind_some, h4, b1]

theorem specLineCells_ok {k : Nat} (hk : 2000000 ≤ k) (n line : Int) (H : Hp) :
    ∃ t H', callF PP orc k spec_LineCells.id [.int .i64 n, .int .i64 line] H = some (.sl 1 t, H') ∧ H <+: H' ∧ Reads .i64 H' t (lineCells n line) := by
  obtain ⟨k, rfl⟩ : ∃ m, k = m + 1 := ⟨k - 1, by omega⟩
  rw [spec_LineCells.call]
  have none' : (∃ m, k = m + 1) → ¬ ((2 ≤ n ∧ n ≤ 4) ∧ 0 ≤ line ∧ line < 2 * n) → spec_LineCells.l0 (callF PP orc k) k k n line (Sl.mk false H.length 0 0) 0 (H ++ [some (Blk.mk false [])]) = some (.sl 1 (Sl.mk false H.length 0 0), H ++ [some (Blk.mk false [])]) := by
    rintro ⟨m, hm⟩ hc
    have hl1 := fun n a b H => l1In_ok (show 1 ≤ k by omega) n a b H
    by_cases c0 : 0 < n
    · by_cases c : 2 ≤ n ∧ n ≤ 4
      · have hw : IntKind.i64.wrap (2 * n) = 2 * n := wr (by omega) (by omega)
        have hw2 : IntKind.i64.wrap (2 * n - 1) = 2 * n - 1 := wr (by omega) (by omega)
        have c3 : decide (0 ≤ line ∧ line ≤ 2 * n - 1) = false := by simp; omega
        generalize callF PP orc k = rc at *
        rw [hm]
        simp only [spec_LineCells.l0, spec_LineCells.j1, spec_LineCells.j3, hl1, AV.toB, c, hw, hw2, c3, c0, and_self, decide_true, cond_true, Option.bind_some, cond_false]
      · generalize callF PP orc k = rc at *
        rw [hm]
        simp only [spec_LineCells.l0, spec_LineCells.j1, spec_LineCells.j3, hl1, AV.toB, c, c0, decide_true, decide_false, cond_true, Option.bind_some, cond_false]
    · generalize callF PP orc k = rc at *
      rw [hm]
      simp only [spec_LineCells.l0, spec_LineCells.j1, spec_LineCells.j3, c0, decide_false, cond_false]
  by_cases c : (2 ≤ n ∧ n ≤ 4) ∧ 0 ≤ line ∧ line < 2 * n
  · obtain ⟨N, hN⟩ := Int.eq_ofNat_of_zero_le (show 0 ≤ n by omega)
    obtain ⟨t', H2, b1, b2, b3⟩ := specLineCells_l0 (k := k) (by omega) hN c.1 c.2 N 0 k (H ++ [some (Blk.mk false [])]) (Sl.mk false H.length 0 0) (by omega) (by omega) (List.prefix_append _ _) (own_new 1 H [] 0 rfl)
    refine ⟨t', H2, by simpa [spec_LineCells.f] using b1, b2, ?_⟩
    unfold lineCells
    rw [if_pos c, show n.toNat = N by omega]
    exact own_reads b3
  · refine ⟨_, _, (show spec_LineCells.f _ _ _ _ _ = _ from none' ⟨k - 1, by omega⟩ c), List.prefix_append _ _, ?_⟩
    unfold lineCells
    rw [if_neg c]
    exact reads_nil rfl
end Go.Proofs.Ytncmneliinbjdaa.Rp
