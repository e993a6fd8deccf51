/- Squares, the program's own side; solved squares. No conditions. -/
import Derived.Test.YtncmneliinbjdaaCe
set_option linter.unusedVariables false
set_option linter.unusedSimpArgs false
namespace Go.Proofs.Ytncmneliinbjdaa.Rp
open Go Go.RowKit Go.Proofs.Ytncmneliinbjdaa.Ab

/-- Which values were seen, as cells. -/
def seenC (seen : List Int) : List AV := (List.range 5).map fun (v : Nat) => .bool (seen.contains (v : Int))
theorem seen_set (seen : List Int) (v : Nat) (hv : v < 5) : (seenC seen).take v ++ [.bool true] ++ (seenC seen).drop (v + 1) = seenC ((v : Int) :: seen) := by
  apply List.ext_getElem?
  intro i
  have h0 : (seenC seen).length = 5 := by simp [seenC]
  have e : (seenC seen).take v ++ [.bool true] ++ (seenC seen).drop (v + 1) = (seenC seen).set v (.bool true) := by
    rw [List.set_eq_take_append_cons_drop, if_pos (by omega)]; simp
  rw [e]
  by_cases hi : i = v
  · subst hi
    rw [List.getElem?_set_self (by omega)]
    simp [seenC, hv]
  · rw [List.getElem?_set_ne (by omega)]
    by_cases h5 : i < 5
    · simp [seenC, h5, hi]
      intro e'; omega
    · rw [List.getElem?_eq_none (by omega), List.getElem?_eq_none (by simp [seenC]; omega)]

theorem reads_ne {H : Hp} {s : Sl} {l : List Int} {k : IntKind} {b : Nat} {seen : List Int} (hr : Reads k H s l) (hl : l ≠ []) (hb : H[b]? = some (some ⟨false, seenC seen⟩)) : s.blk ≠ b := by
  intro e
  have h0 : 0 < l.length := List.length_pos_iff.2 hl
  have := hr.cell 0 h0
  unfold Hp.cell at this
  rw [e, hb] at this
  simp only at this
  have hm := List.mem_of_getElem? this
  unfold seenC at hm
  obtain ⟨v, _, hv⟩ := List.mem_map.1 hm
  cases hv
theorem But.reads' {b : Nat} {H H' : Hp} (h : But b H H') {k : IntKind} {s : Sl} {l : List Int} {seen : List Int} (hb : H[b]? = some (some ⟨false, seenC seen⟩)) (hr : Reads k H s l) : Reads k H' s l := by
  by_cases hl : l = []
  · subst hl; exact reads_nil hr.len
  · exact h.reads (reads_ne hr hl hb) hr

theorem implSquareFits_l1 (rec : Rec) (k : Nat) (L0 : Sl → Int → Int → Int → Hp → An) {H0 : Hp} {s t : Sl} {g cells : List Int} {n top line : Int} {b : Nat} (hs : Reads .i64 H0 s g)
    (hc : ∀ c ∈ cells, 0 ≤ c ∧ c < (g.length : Int)) (hg : ∀ v ∈ g, 0 ≤ v ∧ v ≤ 4) (hl : cells.length ≤ 1000) (hline : IntKind.i64.wrap (line + 1) = line + 1) :
    ∀ (j i fuel : Nat) (H : Hp) (seen : List Int), i + j = cells.length → j < fuel → H0 <+: H → Own 1 H0 H (Sl.mk false b 0 5) (seenC seen) → Reads .i64 H t cells →
      ∃ H', H0 <+: H' ∧ impl_SquareFits.l1 rec k L0 fuel s n b 0 top line t cells.length i H = bif clashL g (cells.drop i) seen then some (.bool false, H') else L0 s n top (line + 1) H' := by
  intro j
  induction j with
  | zero =>
    intro i fuel H seen hi hf hp ho ht
    obtain ⟨fuel, rfl⟩ : ∃ q, fuel = q + 1 := ⟨fuel - 1, by omega⟩
    refine ⟨H, hp, ?_⟩
    simp [impl_SquareFits.l1, impl_SquareFits.j3, show ¬ i < cells.length by omega, List.drop_eq_nil_of_le (show cells.length ≤ i by omega), clashL, hline]
  | succ j ih =>
    intro i fuel H seen hi hf hp ho ht
    obtain ⟨fuel, rfl⟩ : ∃ q, fuel = q + 1 := ⟨fuel - 1, by omega⟩
    have h1 := ht.len
    have h2 : i < cells.length := by omega
    have h3 := reads_at ht i h2
    have h4 := wrs (i := i) (by omega)
    obtain ⟨c0, c1⟩ := hc _ (List.getElem_mem h2)
    have h5 := gv_at (pf_reads hp hs) c0 c1
    obtain ⟨v0, v1⟩ := hg _ (gv_mem c0 c1)
    rw [List.drop_eq_getElem_cons h2]
    simp only [clashL]
    obtain ⟨v, hv⟩ := Int.eq_ofNat_of_zero_le v0
    rw [hv] at h5 ⊢
    have hv5 : v < 5 := by omega
    have hsl := hs.len
    obtain ⟨H1, a1, a2, a3, a4, a5⟩ := own_sto ho hp v [.bool true] (by simp [seenC]; omega)
    rw [show v + [AV.bool true].length = v + 1 from rfl, seen_set seen v hv5] at a3
    simp only [Nat.zero_add] at a1
    obtain ⟨H', b1, b2⟩ := ih (i + 1) fuel H1 ((v : Int) :: seen) (by omega) (by omega) a2 a3 (a4.reads' ho.get ht)
    rw [show ((i + 1 : Nat) : Int) = (i : Int) + 1 by omega] at b2
    have q1 : ((i : Int) < (t.len : Int)) := by omega
    have q2 : ((i : Int) < (cells.length : Int)) := by omega
    have q0 : (0 : Int) ≤ (i : Int) := by omega
    have z0 : (0 : Int) ≤ (v : Int) := by omega
    have z3 : (v : Int) < ((5 : Nat) : Int) := by omega
    have c1' : cells[i] < (s.len : Int) := by omega
    have hld : ldB H b v = some (seen.contains (v : Int)) := by
      have := own_cell ho v
      simp only [Nat.zero_add] at this
      unfold ldB
      rw [this]
      simp [seenC, hv5, AV.toB]
    by_cases hp' : 0 < v
    · have z1 : ((v : Int) > 0) := by omega
      have z2 : (0 : Int) < (v : Int) := z1
      cases hse' : seen.contains (v : Int) with
      | true =>
        rw [hse'] at hld
        refine ⟨H, hp, ?_⟩
        simp only [impl_SquareFits.l1, impl_SquareFits.j2, impl_SquareFits.j4, impl_SquareFits.j5, q0, q1, q2, c0, c1', z0, z1, z2, z3, decide_true, Bool.and_self, cond_true, cond_false, Int.toNat_natCast, Nat.mul_one, Nat.zero_add, h3, h5, Option.bind_some, hld, Bool.true_or]
      | false =>
        rw [hse'] at hld
        refine ⟨H', b1, ?_⟩
        simp only [impl_SquareFits.l1, impl_SquareFits.j2, impl_SquareFits.j4, impl_SquareFits.j5, q0, q1, q2, c0, c1', z0, z1, z2, z3, decide_true, Bool.and_self, Bool.and_false, cond_true, cond_false, Int.toNat_natCast, Nat.mul_one, Nat.zero_add, h3, h5, Option.bind_some, hld, Bool.false_or, a1, h4, b2]
    · have z1 : ¬ ((v : Int) > 0) := by omega
      have z2 : ¬ (0 : Int) < (v : Int) := z1
      refine ⟨H', b1, ?_⟩
      simp only [impl_SquareFits.l1, impl_SquareFits.j2, impl_SquareFits.j4, impl_SquareFits.j5, q0, q1, q2, c0, c1', z0, z1, z2, z3, decide_true, decide_false, Bool.and_self, Bool.false_and, cond_true, cond_false, Int.toNat_natCast, Nat.mul_one, Nat.zero_add, h3, h5, Option.bind_some, Bool.false_or, a1, h4, b2]

theorem implSquareFits_l0 {k : Nat} (hk : 2000000 ≤ k) {H0 : Hp} {s : Sl} {g : List Int} {n : Int} (hs : Reads .i64 H0 s g) (hg : gridOk g n = true) :
    ∀ (j fuel line : Nat) (H : Hp), (line : Int) + j = 2 * n → j < fuel → H0 <+: H →
      ∃ H', impl_SquareFits.l0 (callF PP orc k) k fuel s n (2 * n) line H = some (.bool (!clashFrom g n line j), H') ∧ H0 <+: H' := by
  obtain ⟨⟨n1, n2⟩, n3, n4⟩ := (gridOk_iff g n).1 hg
  intro j
  induction j with
  | zero =>
    intro fuel line H hl hf hp
    obtain ⟨fuel, rfl⟩ : ∃ q, fuel = q + 1 := ⟨fuel - 1, by omega⟩
    refine ⟨H, ?_, hp⟩
    have : ¬ ((line : Int) < 2 * n) := by omega
    simp only [impl_SquareFits.l0, this, decide_false, cond_false, clashFrom, Bool.not_false]
  | succ j ih =>
    intro fuel line H hl hf hp
    obtain ⟨fuel, rfl⟩ : ∃ q, fuel = q + 1 := ⟨fuel - 1, by omega⟩
    have q1 : ((line : Int) < 2 * n) := by omega
    have hnew := own_base (own_new 1 H [.bool false, .bool false, .bool false, .bool false, .bool false] 5 rfl) hp
    obtain ⟨H1, a1, a2, a3, a4, a5⟩ := own_sto hnew (hp.trans (List.prefix_append _ _)) 0 [.bool false, .bool false, .bool false, .bool false, .bool false] (by simp)
    obtain ⟨t, H2, e1, e2, e3⟩ := implLineCells_ok hk n line H1
    have hseen : Own 1 H0 H1 (Sl.mk false H.length 0 5) (seenC []) := a3
    obtain ⟨H3, b1, b2⟩ := implSquareFits_l1 (callF PP orc k) k (impl_SquareFits.l0 (callF PP orc k) k fuel) (line := line) (n := n) (top := 2 * n) hs (fun c hc => by rw [n3]; exact lineCells_mem hc) (fun v hv => ⟨(n4 v hv).1, by have := (n4 v hv).2; omega⟩)
      (by have := lineCells_len n line; omega) (wr (by omega) (by omega)) (lineCells n line).length 0 k H2 [] (by omega) (by have := lineCells_len n line; omega) (a2.trans e2) (own_pf hseen e2) e3
    simp only [List.drop_zero, Int.natCast_zero] at b2
    simp only [Nat.zero_add] at a1
    have hlen := e3.len
    have a1' : (H ++ [some (Blk.mk false [.bool false, .bool false, .bool false, .bool false, .bool false])]).sto H.length 0 [.bool false, .bool false, .bool false, .bool false, .bool false] = some H1 := a1
    cases hc : clashL g (lineCells n line) [] with
    | true =>
      refine ⟨H3, ?_, b1⟩
      simp only [hc, cond_true] at b2
      simp only [impl_SquareFits.l0, q1, decide_true, cond_true, a1', e1, Option.bind_some, AV.toS, if_true, clashFrom, hc, Bool.true_or, Bool.not_true, hlen]
      exact b2
    | false =>
      obtain ⟨H', c1, c2⟩ := ih fuel (line + 1) H3 (by omega) (by omega) b1
      push_cast at c1
      refine ⟨H', ?_, c2⟩
      simp only [hc, cond_false] at b2
      simp only [impl_SquareFits.l0, q1, decide_true, cond_true, a1', e1, Option.bind_some, AV.toS, if_true, clashFrom, hc, Bool.false_or, hlen]
      exact b2.trans c1

theorem implSquareFits_ok {k : Nat} (hk : 2000001 ≤ k) {H : Hp} {s : Sl} {g : List Int} (n : Int) (hs : Reads .i64 H s g) (hl : g.length ≤ 1048576) :
    ∃ H', callF PP orc k impl_SquareFits.id [.sl 1 s, .int .i64 n] H = some (.bool (squareFits g n), H') ∧ H <+: H' := by
  obtain ⟨k, rfl⟩ : ∃ m, k = m + 1 := ⟨k - 1, by omega⟩
  rw [impl_SquareFits.call]
  have h1 := implGridValid_ok (show 2000000 ≤ k by omega) hs hl n
  cases hg : gridOk g n with
  | true =>
    obtain ⟨⟨n1, n2⟩, n3, n4⟩ := (gridOk_iff g n).1 hg
    have hw : IntKind.i64.wrap (2 * n) = 2 * n := wr (by omega) (by omega)
    obtain ⟨H', a1, a2⟩ := implSquareFits_l0 (show 2000000 ≤ k by omega) hs hg (2 * n).toNat k 0 H (by omega) (by omega) (List.prefix_refl _)
    refine ⟨H', ?_, a2⟩
    simp only [impl_SquareFits.f, h1, hg, Option.bind_some, AV.toB, Bool.not_true, cond_false, hw, squareFits, Bool.true_and]
    exact a1
  | false => exact ⟨H, by simp only [impl_SquareFits.f, h1, hg, Option.bind_some, AV.toB, Bool.not_false, cond_true, squareFits, Bool.false_and], List.prefix_refl _⟩

theorem nn_wrap {g : List Int} {n : Int} (hg : squareFits g n = true) : IntKind.i64.wrap (n * n) = n * n := by
  unfold squareFits at hg
  simp only [Bool.and_eq_true] at hg
  obtain ⟨⟨n1, n2⟩, _⟩ := (gridOk_iff g n).1 hg.1
  have : n = 2 ∨ n = 3 ∨ n = 4 := by omega
  rcases this with rfl | rfl | rfl <;> exact wr (by decide) (by decide)

theorem implSquareSolved_ok {k : Nat} (hk : 2000003 ≤ k) {H : Hp} {s : Sl} {g : List Int} (n : Int) (hs : Reads .i64 H s g) (hl : g.length ≤ 1048576) :
    ∃ H', callF PP orc k impl_SquareSolved.id [.sl 1 s, .int .i64 n] H = some (.bool (squareSolved g n), H') ∧ H <+: H' := by
  obtain ⟨k, rfl⟩ : ∃ m, k = m + 1 := ⟨k - 1, by omega⟩
  rw [impl_SquareSolved.call]
  obtain ⟨H', a1, a2⟩ := implSquareFits_ok (show 2000001 ≤ k by omega) n hs hl
  have h2 := implGridFilled_ok (show 2000001 ≤ k by omega) (pf_reads a2 hs) hl n
  refine ⟨H', ?_, a2⟩
  cases hf : squareFits g n with
  | true =>
    have hg : gridOk g n = true := by unfold squareFits at hf; simp only [Bool.and_eq_true] at hf; exact hf.1
    simp only [impl_SquareSolved.f, a1, Option.bind_some, AV.toB, hf, cond_true, h2, AV.toI, if_true, hg, nn_wrap hf, squareSolved, Bool.true_and]
    rfl
  | false => simp only [impl_SquareSolved.f, a1, Option.bind_some, AV.toB, hf, cond_false, squareSolved, Bool.false_and]

theorem specSquareSolved_ok {k : Nat} (hk : 2000003 ≤ k) {H : Hp} {s : Sl} {g : List Int} (n : Int) (hs : Reads .i64 H s g) (hl : g.length ≤ 1048576) :
    ∃ H', callF PP orc k spec_SquareSolved.id [.sl 1 s, .int .i64 n] H = some (.bool (squareSolved g n), H') ∧ H <+: H' := by
  obtain ⟨k, rfl⟩ : ∃ m, k = m + 1 := ⟨k - 1, by omega⟩
  rw [spec_SquareSolved.call]
  obtain ⟨H', a1, a2⟩ := specSquareFits_ok (show 2000002 ≤ k by omega) n hs hl
  have h2 := specGridFilled_ok (show 2000001 ≤ k by omega) (pf_reads a2 hs) hl n
  refine ⟨H', ?_, a2⟩
  cases hf : squareFits g n with
  | true =>
    have hg : gridOk g n = true := by unfold squareFits at hf; simp only [Bool.and_eq_true] at hf; exact hf.1
    simp only [spec_SquareSolved.f, a1, Option.bind_some, AV.toB, hf, cond_true, h2, AV.toI, if_true, hg, nn_wrap hf, squareSolved, Bool.true_and]
    rfl
  | false => simp only [spec_SquareSolved.f, a1, Option.bind_some, AV.toB, hf, cond_false, squareSolved, Bool.false_and]
end Go.Proofs.Ytncmneliinbjdaa.Rp
