/- RegionCells: every cell is in exactly one region and the cells ascend, at every drawn list. No conditions. -/
import Derived.Test.YtinockknikfmgaaPFnRegionCellsx5
import Derived.Test.YtinockknikfmgaaMo
set_option linter.unusedSimpArgs false
set_option linter.unusedVariables false
set_option maxRecDepth 4000
namespace Go.Proofs.Ytinockknikfmgaa.Pure
open Go.RowKit Go.Proofs.Ytinockknikfmgaa.PFnRegionCells Go.Proofs.Ytinockknikfmgaa.Pk Go.Proofs.Ytinockknikfmgaa.Mo Go.Proofs.YtinockknikfmgaaW.PrintWords Go.Proofs.YtinockknikfmgaaW.PrintLast

namespace XFnRegionCells
theorem laws_sameInts_ev (a b : List Int) (ha : a.length ≤ 4611686018427387904) : Ev (fun k => laws_sameInts.f k a b) (decide (a = b)) := by
  have key : b.length = a.length → ∀ i, i ≤ a.length → Ev (fun k => laws_sameInts.l0 k a b (i : Int)) (decide (a.drop i = b.drop i)) := by
    intro hl
    refine up a.length ?_ ?_
    · refine Ev.step (fun _ => rfl) ?_
      simp only [laws_sameInts.l0]
      refine ev_neg (by omega) (ev_now ?_)
      rw [List.drop_length, ← hl, List.drop_length]; simp
    · intro i hi ih
      refine Ev.step (fun _ => rfl) ?_
      simp only [laws_sameInts.l0]
      refine ev_pos (by omega) (ev_pos (by omega) (ev_pos (by omega) ?_))
      rw [rd_nat a i hi, rd_nat b i (by omega), w64s (by omega), drop_step a i hi, drop_step b i (by omega)]
      by_cases e : a[i] = b[i]
      · refine ev_pos e (ev_of_eq ih ?_); rw [decide_eq_decide, List.cons.injEq]; exact ⟨fun h => ⟨e, h⟩, fun h => h.2⟩
      · refine ev_neg e (ev_now ?_); symm; rw [decide_eq_false_iff_not, List.cons.injEq]; exact fun h => e h.1
  unfold laws_sameInts.f
  by_cases hl : b.length = a.length
  · exact ev_pos (by omega) (by simpa using key hl 0 (by omega))
  · refine ev_neg (by omega) (ev_now ?_)
    have : a ≠ b := fun e => hl (by rw [e])
    simp [this]
theorem impl_sizeOk_eq (s : Int) : impl_sizeOk.f s = some (decide (Mo.SizeOk s)) := by
  unfold impl_sizeOk.f Mo.SizeOk
  by_cases h : s ≥ 2
  · rw [if_pos h]; simp [show (2 : Int) ≤ s from h]
  · rw [if_neg h]; simp [show ¬ (2 : Int) ≤ s from h]
theorem spec_l1In_eq (n lo hi : Int) : spec_l1In.f n lo hi = some (decide (lo ≤ n ∧ n ≤ hi)) := by
  unfold spec_l1In.f
  by_cases h : n ≥ lo
  · rw [if_pos h]; simp [show lo ≤ n from h]
  · rw [if_neg h]; simp [show ¬ lo ≤ n from h]
theorem impl_RegionsValid_ev (l : List Int) (s : Int) (hl : l.length ≤ 4611686018427387904) : Ev (fun k => impl_RegionsValid.f k l s) (decide (Mo.SqOk (s - 1) l s)) := by
  have key : ∀ i, i ≤ l.length → Ev (fun k => impl_RegionsValid.l0 k s l (l.length : Int) (i : Int)) (decide (Mo.AllIn 0 (s - 1) (l.drop i))) := by
    refine up l.length ?_ ?_
    · refine Ev.step (fun _ => rfl) ?_
      simp only [impl_RegionsValid.l0]
      refine ev_neg (by omega) (ev_now ?_)
      simp [Mo.AllIn.nil]
    · intro i hi ih
      refine Ev.step (fun _ => rfl) ?_
      simp only [impl_RegionsValid.l0]
      refine ev_pos (by omega) (ev_pos (by omega) (ev_pos (by omega) ?_))
      rw [rd_nat l i hi, w64s (by omega), drop_step l i hi]
      by_cases e : l[i] < 0
      · refine ev_pos e (ev_now ?_)
        symm; rw [decide_eq_false_iff_not, Mo.AllIn.cons]; omega
      · refine ev_neg e ?_
        by_cases e' : l[i] ≥ s
        · refine ev_pos e' (ev_now ?_)
          symm; rw [decide_eq_false_iff_not, Mo.AllIn.cons]; omega
        · refine ev_neg e' (ev_of_eq ih ?_)
          rw [decide_eq_decide, Mo.AllIn.cons]
          exact ⟨fun h => ⟨by omega, h⟩, fun h => h.2⟩
  unfold impl_RegionsValid.f
  refine ev_bindc (impl_sizeOk_eq s) ?_
  by_cases hs : Mo.SizeOk s
  · have hs' := hs
    unfold Mo.SizeOk at hs'
    refine ev_pos (by simpa using hs) (Ev.step (fun _ => rfl) ?_)
    simp only [impl_RegionsValid.j0]
    have hw : wrap64 (s * s) = s * s := by rcases hs.cases with rfl | rfl | rfl <;> exact w64 (by decide) (by decide)
    rw [hw]
    by_cases hn : (l.length : Int) = s * s
    · refine ev_neg (by simp [hn]) (ev_of_eq (key 0 (by omega)) ?_)
      rw [decide_eq_decide]
      exact ⟨fun h => ⟨hs, hn, by simpa using h⟩, fun h => by simpa using h.2.2⟩
    · refine ev_pos (by simp [hn]) (ev_now ?_)
      symm; rw [decide_eq_false_iff_not]; exact fun h => hn h.2.1
  · refine ev_neg (by simpa using hs) (Ev.step (fun _ => rfl) ?_)
    simp only [impl_RegionsValid.j0]
    refine ev_pos trivial (ev_now ?_)
    symm; rw [decide_eq_false_iff_not]; exact fun h => hs h.1
theorem spec_RegionsValid_ev (l : List Int) (s : Int) (hl : l.length ≤ 4611686018427387904) : Ev (fun k => spec_RegionsValid.f k l s) (decide (Mo.SqOk (s - 1) l s)) := by
  by_cases hs : Mo.SizeOk s
  · have hs' := hs
    unfold Mo.SizeOk at hs'
    have hw : wrap64 (s * s) = s * s := by rcases hs.cases with rfl | rfl | rfl <;> exact w64 (by decide) (by decide)
    have hw1 : wrap64 (s - 1) = s - 1 := w64 (by omega) (by omega)
    have key : ∀ i, i ≤ l.length → Ev (fun k => spec_RegionsValid.l0 k l s (i : Int)) (decide ((l.length : Int) = s * s ∧ Mo.AllIn 0 (s - 1) (l.drop i))) := by
      refine up l.length ?_ ?_
      · refine Ev.step (fun _ => rfl) ?_
        simp only [spec_RegionsValid.l0]
        refine ev_neg (by omega) (ev_bindc (spec_l1In_eq _ _ _) (ev_pos (by simpa using hs') (ev_now ?_)))
        simp [Mo.AllIn.nil, hw]
        exact (Bool.beq_eq_decide_eq _ _)
      · intro i hi ih
        refine Ev.step (fun _ => rfl) ?_
        simp only [spec_RegionsValid.l0]
        refine ev_pos (by omega) (ev_pos (by omega) (ev_bindc (spec_l1In_eq _ _ _) ?_))
        rw [rd_nat l i hi, w64s (by omega), drop_step l i hi, hw1]
        by_cases e : 0 ≤ l[i] ∧ l[i] ≤ s - 1
        · refine ev_pos (by simpa using e) (ev_of_eq ih ?_)
          rw [decide_eq_decide, Mo.AllIn.cons]
          exact ⟨fun h => ⟨h.1, e, h.2⟩, fun h => ⟨h.1, h.2.2⟩⟩
        · refine ev_neg (by simpa using e) (ev_now ?_)
          symm; rw [decide_eq_false_iff_not, Mo.AllIn.cons]; exact fun h => e h.2.1
    unfold spec_RegionsValid.f
    refine ev_of_eq (key 0 (by omega)) ?_
    rw [decide_eq_decide]
    exact ⟨fun h => ⟨hs, by simpa using h⟩, fun h => by simpa using h.2⟩
  · have key : ∀ i, i ≤ l.length → Ev (fun k => spec_RegionsValid.l0 k l s (i : Int)) false := by
      refine up l.length ?_ ?_
      · refine Ev.step (fun _ => rfl) ?_
        simp only [spec_RegionsValid.l0]
        exact ev_neg (by omega) (ev_bindc (spec_l1In_eq _ _ _) (ev_neg (by simpa [Mo.SizeOk] using hs) (ev_now rfl)))
      · intro i hi ih
        refine Ev.step (fun _ => rfl) ?_
        simp only [spec_RegionsValid.l0]
        refine ev_pos (by omega) (ev_pos (by omega) (ev_bindc (spec_l1In_eq _ _ _) ?_))
        rw [w64s (by omega)]
        by_cases e : decide (0 ≤ rd l (i : Int) ∧ rd l (i : Int) ≤ wrap64 (s - 1)) = true
        · exact ev_pos e ih
        · exact ev_neg e (ev_now rfl)
    unfold spec_RegionsValid.f
    refine ev_of_eq (key 0 (by omega)) ?_
    symm; rw [decide_eq_false_iff_not]; exact fun h => hs h.1
theorem impl_RegionCells_ev (l : List Int) (s r : Int) (hl : l.length ≤ 4611686018427387904) : Ev (fun k => impl_RegionCells.f k l s r) (if Mo.SqOk (s - 1) l s ∧ 0 ≤ r ∧ r < s then Mo.places r 0 l else []) := by
  unfold impl_RegionCells.f
  refine Ev.bind (impl_RegionsValid_ev l s hl) ?_
  by_cases hv : Mo.SqOk (s - 1) l s
  · have h16 := hv.len16
    have key : ∀ i, i ≤ l.length → ∀ acc : List Int, acc.length ≤ i → Ev (fun k => impl_RegionCells.l0 k r acc l (l.length : Int) (i : Int)) (acc ++ Mo.places r i (l.drop i)) := by
      refine up l.length ?_ ?_
      · intro acc ha
        refine Ev.step (fun _ => rfl) ?_
        simp only [impl_RegionCells.l0]
        refine ev_neg (by omega) (ev_now ?_)
        simp [Mo.places]
      · intro i hi ih acc ha
        refine Ev.step (fun _ => rfl) ?_
        simp only [impl_RegionCells.l0]
        refine ev_pos (by omega) (ev_pos (by omega) (ev_pos (by omega) ?_))
        rw [rd_nat l i hi, w64s (by omega), drop_step l i hi]
        by_cases e : l[i] = r
        · refine ev_pos e (ev_pos (by omega) (ev_of_eq (ih (acc ++ [(i : Int)]) (by simp; omega)) ?_))
          simp [Mo.places, e]
        · refine ev_neg e (ev_of_eq (ih acc (by omega)) ?_)
          simp [Mo.places, e]
    refine ev_pos (by simpa using hv) ?_
    by_cases h0 : r < 0
    · refine ev_pos h0 (Ev.step (fun _ => rfl) ?_)
      simp only [impl_RegionCells.j0]
      refine ev_pos trivial (ev_now ?_)
      rw [if_neg (by omega)]
    · refine ev_neg h0 (Ev.step (fun _ => rfl) ?_)
      simp only [impl_RegionCells.j0]
      by_cases h1 : r < s
      · refine ev_neg (by simp; omega) (ev_of_eq (key 0 (by omega) [] (by simp)) ?_)
        rw [if_pos ⟨hv, by omega, h1⟩]; simp
      · refine ev_pos (by simp; omega) (ev_now ?_)
        rw [if_neg (by omega)]
  · refine ev_neg (by simpa using hv) (Ev.step (fun _ => rfl) ?_)
    simp only [impl_RegionCells.j0]
    refine ev_pos trivial (ev_now ?_)
    rw [if_neg (fun h => hv h.1)]
theorem spec_RegionCells_ev (l : List Int) (s r : Int) (hl : l.length ≤ 4611686018427387904) : Ev (fun k => spec_RegionCells.f k l s r) (if Mo.SqOk (s - 1) l s ∧ 0 ≤ r ∧ r < s then Mo.places r 0 l else []) := by
  by_cases hv : Mo.SqOk (s - 1) l s
  · have h16 := hv.len16
    have key : ∀ i, i ≤ l.length → ∀ acc : List Int, acc.length ≤ i → Ev (fun k => spec_RegionCells.l0 k l s r acc (i : Int)) (acc ++ Mo.places r i (l.drop i)) := by
      refine up l.length ?_ ?_
      · intro acc ha
        refine Ev.step (fun _ => rfl) ?_
        simp only [spec_RegionCells.l0]
        refine ev_neg (by omega) (Ev.step (fun _ => rfl) ?_)
        simp only [spec_RegionCells.j1]
        refine ev_neg (by simp) (ev_now ?_)
        simp [Mo.places]
      · intro i hi ih acc ha
        refine Ev.step (fun _ => rfl) ?_
        simp only [spec_RegionCells.l0]
        refine ev_pos (by omega) (Ev.bind (spec_RegionsValid_ev l s hl) (Ev.step (fun _ => rfl) ?_))
        simp only [spec_RegionCells.j1]
        refine ev_pos (by simpa using hv) (ev_pos (by omega) (ev_pos (by omega) ?_))
        rw [rd_nat l i hi, w64s (by omega), drop_step l i hi]
        by_cases e : l[i] = r
        · refine ev_pos e (ev_pos (by omega) (ev_of_eq (ih (acc ++ [(i : Int)]) (by simp; omega)) ?_))
          simp [Mo.places, e]
        · refine ev_neg e (ev_of_eq (ih acc (by omega)) ?_)
          simp [Mo.places, e]
    unfold spec_RegionCells.f
    refine ev_of_eq (key 0 (by omega) [] (by simp)) ?_
    by_cases h1 : 0 ≤ r ∧ r < s
    · rw [if_pos ⟨hv, h1⟩]; simp
    · rw [if_neg (fun h => h1 h.2)]
      rw [Mo.places_none]; simp
      intro x hx e
      have := hv.2.2 x (by simpa using hx)
      omega
  · rw [if_neg (fun h => hv h.1)]
    unfold spec_RegionCells.f
    refine Ev.step (fun _ => rfl) ?_
    simp only [spec_RegionCells.l0]
    by_cases h0 : (0 : Int) < l.length
    · refine ev_pos h0 (Ev.bind (spec_RegionsValid_ev l s hl) (Ev.step (fun _ => rfl) ?_))
      simp only [spec_RegionCells.j1]
      exact ev_neg (by simpa using hv) (ev_now rfl)
    · refine ev_neg h0 (Ev.step (fun _ => rfl) ?_)
      simp only [spec_RegionCells.j1]
      exact ev_neg (by simp) (ev_now rfl)
theorem laws_alive_ev : Ev (fun k => laws_alive.f k) true := Ev.of laws_alive.mono (k := 12) (by decide +kernel)
theorem spec_BoxRegions_ev : Ev (fun k => spec_BoxRegions.f k) Mo.boxes := Ev.of spec_BoxRegions.mono (k := 20) (by decide +kernel)
/-- A code, as the reader of draws takes it. -/
def Bytes (b : List Int) : Prop := b.length ≤ 2000 ∧ ∀ x ∈ b, 0 ≤ x ∧ x ≤ 255
theorem spec_l20Open_ev (l : List Int) (hw : ∀ x ∈ l, (Lit.int .u8 x).wf = true) : ∃ b, spec_l20Open.f l = some (b, 0) ∧ Bytes b := by
  unfold spec_l20Open.f
  by_cases h : (l.length : Int) > 2000
  · refine ⟨l.take 2000, ?_, ?_, fun x hx => wf_u8.1 (hw x (List.mem_of_mem_take hx))⟩
    · rw [if_pos h, if_pos (by omega)]
    · simp; omega
  · exact ⟨l, by rw [if_neg h], by omega, fun x hx => wf_u8.1 (hw x hx)⟩
theorem spec_l20Rd_pick_ev (b : List Int) (p n : Int) (hb : Bytes b) (h0 : 0 ≤ p) (hp : p ≤ 1000000000) (hn : n ≤ 1000000000) :
    ∃ r, Ev (fun k => spec_l20Rd_pick.f k b p n) (r, p + 1) ∧ 0 ≤ r ∧ (1 ≤ n → r < n) ∧ (n < 1 → r = 0) := by
  unfold spec_l20Rd_pick.f
  rw [w64 (n := p + 1) (by omega) (by omega)]
  by_cases hn1 : n < 1
  · refine ⟨0, ev_pos hn1 (Ev.step (fun _ => rfl) ?_), by omega, by omega, fun _ => rfl⟩
    simp only [spec_l20Rd_pick.j0]
    exact ev_pos trivial (ev_now rfl)
  · by_cases hl : b.length = 0
    · refine ⟨0, ev_neg hn1 (Ev.step (fun _ => rfl) ?_), by omega, by omega, by omega⟩
      simp only [spec_l20Rd_pick.j0]
      exact ev_pos (by simp [hl]) (ev_now rfl)
    · have hmem : ∀ i : Int, 0 ≤ i → i < b.length → 0 ≤ rd b i ∧ rd b i ≤ 255 := fun i h h' => hb.2 _ (rd_mem b i h h')
      have hne : ¬ (((b.length : Int) == 0) = true) := fun h => hl (by have := eq_of_beq h; omega)
      have hp1 : wrap64 (p + 1 - 1) = p := by rw [w64 (by omega) (by omega)]; omega
      by_cases hk : p < b.length
      · have hr := hmem p h0 hk
        refine ⟨Int.tmod (wrap64 (rd b p)) n, ev_neg hn1 (Ev.step (fun _ => rfl) ?_), ?_, ?_, by omega⟩
        · simp only [spec_l20Rd_pick.j0]
          rw [hp1]
          exact ev_neg hne (ev_pos hk (ev_pos h0 (ev_neg (by omega) (ev_now rfl))))
        · rw [w64 (by omega) (by omega), Int.tmod_eq_emod_of_nonneg (by omega)]; exact Int.emod_nonneg _ (by omega)
        · intro _; rw [w64 (by omega) (by omega), Int.tmod_eq_emod_of_nonneg (by omega)]; exact Int.emod_lt_of_pos _ (by omega)
      · have hL : (0 : Int) < b.length := by omega
        have e7 : wrap64 (wrap64 (p * 7) + 3) = p * 7 + 3 := by rw [w64 (n := p * 7) (by omega) (by omega), w64 (by omega) (by omega)]
        have m1 : Int.tmod p b.length = p % b.length := Int.tmod_eq_emod_of_nonneg h0
        have m2 : Int.tmod (p * 7 + 3) b.length = (p * 7 + 3) % b.length := Int.tmod_eq_emod_of_nonneg (by omega)
        have a1 := Int.emod_nonneg p (b := (b.length : Int)) (by omega)
        have a2 := Int.emod_lt_of_pos p hL
        have b1 := Int.emod_nonneg (p * 7 + 3) (b := (b.length : Int)) (by omega)
        have b2 := Int.emod_lt_of_pos (p * 7 + 3) hL
        have r1 := hmem _ a1 a2
        have r2 := hmem _ b1 b2
        have d0 : 0 ≤ Int.tdiv p b.length := by rw [Int.tdiv_eq_ediv_of_nonneg h0]; exact Int.ediv_nonneg h0 (by omega)
        have d1 : Int.tdiv p b.length ≤ p := by rw [Int.tdiv_eq_ediv_of_nonneg h0]; exact Int.ediv_le_self _ h0
        generalize hx : wrap64 (wrap64 (wrap64 (wrap64 (wrap64 (rd b (p % b.length)) * 131) + wrap64 (wrap64 (rd b ((p * 7 + 3) % b.length)) * 1117)) + wrap64 (p * 29)) + wrap64 (wrap64 (Int.tdiv p b.length) * 53)) = x
        have hx0 : 0 ≤ x ∧ x ≤ 100000000000 := by
          rw [← hx]
          rw [w64 (n := rd b (p % b.length)) (by omega) (by omega), w64 (n := rd b ((p * 7 + 3) % b.length)) (by omega) (by omega), w64 (n := Int.tdiv p b.length) (by omega) (by omega)]
          rw [w64 (n := rd b (p % b.length) * 131) (by omega) (by omega), w64 (n := rd b ((p * 7 + 3) % b.length) * 1117) (by omega) (by omega), w64 (n := p * 29) (by omega) (by omega), w64 (n := Int.tdiv p b.length * 53) (by omega) (by omega)]
          rw [w64 (n := rd b (p % b.length) * 131 + rd b ((p * 7 + 3) % b.length) * 1117) (by omega) (by omega)]
          rw [w64 (n := rd b (p % b.length) * 131 + rd b ((p * 7 + 3) % b.length) * 1117 + p * 29) (by omega) (by omega)]
          rw [w64 (by omega) (by omega)]
          omega
        have hq : wrap64 (Int.tdiv x 64) = x / 64 := by rw [Int.tdiv_eq_ediv_of_nonneg hx0.1, w64 (by omega) (by omega)]
        have hz : 0 ≤ Go.bits .xor .i64 x (x / 64) := xor_nonneg _ _ (by omega) (by omega) (by omega) (by omega)
        refine ⟨Int.tmod (Go.bits .xor .i64 x (x / 64)) n, ev_neg hn1 (Ev.step (fun _ => rfl) ?_), ?_, ?_, by omega⟩
        · simp only [spec_l20Rd_pick.j0]
          rw [hp1, e7, m1, m2, hx, hq]
          exact ev_neg hne (ev_neg hk (ev_neg (by omega) (ev_pos a1 (ev_pos a2 (ev_pos b1 (ev_pos b2 (ev_neg (by omega) (ev_now rfl))))))))
        · rw [Int.tmod_eq_emod_of_nonneg hz]; exact Int.emod_nonneg _ (by omega)
        · intro _; rw [Int.tmod_eq_emod_of_nonneg hz]; exact Int.emod_lt_of_pos _ (by omega)
theorem spec_l20Rd_odd_ev (b : List Int) (p n : Int) (hb : Bytes b) (h0 : 0 ≤ p) (hp : p ≤ 1000000000) (hn : n ≤ 1000000000) :
    ∃ r p', Ev (fun k => spec_l20Rd_odd.f k b p n) (r, p') ∧ p ≤ p' ∧ p' ≤ p + 1 ∧ (n ≤ 0 → r = false ∧ p' = p) := by
  unfold spec_l20Rd_odd.f
  by_cases h : n > 0
  · obtain ⟨r, hr, _⟩ := spec_l20Rd_pick_ev b p n hb h0 hp hn
    exact ⟨_, _, ev_pos h (Ev.bind hr (ev_now rfl)), by omega, by omega, by omega⟩
  · exact ⟨_, _, ev_neg h (ev_now rfl), by omega, by omega, fun _ => ⟨rfl, rfl⟩⟩
theorem spec_l20Size_ev (b : List Int) (p n : Int) (hb : Bytes b) (h0 : 0 ≤ p) (hp : p ≤ 900000000) (hn : n ≤ 1000000000) :
    ∃ s p', Ev (fun k => spec_l20Size.f k b p n) (s, p') ∧ p ≤ p' ∧ p' ≤ p + 2 ∧ (-1 ≤ s ∧ s ≤ 5) ∧ (n ≤ 0 → Mo.SizeOk s) := by
  unfold spec_l20Size.f
  obtain ⟨r, p1, hr, h1, h2, h3⟩ := spec_l20Rd_odd_ev b p n hb h0 (by omega) hn
  cases r with
  | true =>
    obtain ⟨q, hq, q0, q1, _⟩ := spec_l20Rd_pick_ev b p1 3 hb (by omega) (by omega) (by omega)
    have q1 := q1 (by omega)
    have hc : q = 0 ∨ q = 1 ∨ q = 2 := by omega
    refine ⟨rd [1, 5, -1] q, p1 + 1, Ev.bind hr (ev_pos rfl (ev_some (Ev.bind hq (ev_pos q0 (ev_pos (by simpa using q1) (ev_now rfl)))))), by omega, by omega, ?_, fun h => ?_⟩
    · rcases hc with rfl | rfl | rfl <;> decide
    · exact absurd (h3 h).1 (by simp)
  | false =>
    obtain ⟨q, hq, q0, q1, _⟩ := spec_l20Rd_pick_ev b p1 5 hb (by omega) (by omega) (by omega)
    have q1 := q1 (by omega)
    have hc : q = 0 ∨ q = 1 ∨ q = 2 ∨ q = 3 ∨ q = 4 := by omega
    refine ⟨rd [2, 3, 3, 4, 4] q, p1 + 1, Ev.bind hr (ev_neg (by simp) (ev_some (Ev.bind hq (ev_pos q0 (ev_pos (by simpa using q1) (ev_now rfl)))))), by omega, by omega, ?_, fun h => ?_⟩
    · rcases hc with rfl | rfl | rfl | rfl | rfl <;> decide
    · rcases hc with rfl | rfl | rfl | rfl | rfl <;> decide
theorem spec_l20Regions_ev (b : List Int) (p n : Int) (hb : Bytes b) (h0 : 0 ≤ p) (hp : p ≤ 800000000) (hn : n ≤ 1000000000) :
    ∃ l s p', Ev (fun k => spec_l20Regions.f k b p n) (l, s, p') ∧ p ≤ p' ∧ p' ≤ p + 100 ∧ l.length ≤ 16 ∧ 3 ≤ l.length := by
  unfold spec_l20Regions.f
  obtain ⟨s, p1, hs, hp1, hp2, _, hsz⟩ := spec_l20Size_ev b p 0 hb h0 (by omega) (by omega)
  have hsz := hsz (by omega)
  have hsz' := hsz
  unfold Mo.SizeOk at hsz'
  have hw : wrap64 (s * s) = s * s := by rcases hsz.cases with rfl | rfl | rfl <;> exact w64 (by decide) (by decide)
  obtain ⟨N, hN⟩ : ∃ N : Nat, s * s = N := ⟨(s * s).toNat, by rcases hsz.cases with rfl | rfl | rfl <;> rfl⟩
  have hN4 : 4 ≤ N ∧ N ≤ 16 := by rcases hsz.cases with rfl | rfl | rfl <;> omega
  -- behind the list
  have j4 : ∀ (l : List Int) (q : Int), l.length ≤ 16 → 4 ≤ l.length → p1 ≤ q → q ≤ p1 + 80 →
      ∃ l' s' p', Ev (fun k => spec_l20Regions.j4 k n s l b q) (l', s', p') ∧ p ≤ p' ∧ p' ≤ p + 100 ∧ l'.length ≤ 16 ∧ 3 ≤ l'.length := by
    intro l q hl1 hl2 hq1 hq2
    obtain ⟨o, p2, ho, ho1, ho2, _⟩ := spec_l20Rd_odd_ev b q n hb (by omega) (by omega) hn
    cases o with
    | false =>
      refine ⟨l, s, p2, Ev.step (fun _ => rfl) ?_, by omega, by omega, hl1, by omega⟩
      simp only [spec_l20Regions.j4]
      exact Ev.bind ho (ev_neg (by simp) (ev_now rfl))
    | true =>
      obtain ⟨c, hc, c0, c1, _⟩ := spec_l20Rd_pick_ev b p2 3 hb (by omega) (by omega) (by omega)
      have c1 := c1 (by omega)
      by_cases e0 : c = 0
      · obtain ⟨i, hi, i0, i1, _⟩ := spec_l20Rd_pick_ev b (p2 + 1) (l.length : Int) hb (by omega) (by omega) (by omega)
        have i1 := i1 (by omega)
        obtain ⟨d, hd, d0, d1, _⟩ := spec_l20Rd_pick_ev b (p2 + 1 + 1) 2 hb (by omega) (by omega) (by omega)
        have d1 := d1 (by omega)
        refine ⟨l.set i.toNat (rd [-1, s] d), s, p2 + 1 + 1 + 1, Ev.step (fun _ => rfl) ?_, by omega, by omega, by simpa using hl1, by simp; omega⟩
        simp only [spec_l20Regions.j4]
        exact Ev.bind ho (ev_pos rfl (Ev.bind hc (ev_pos e0 (Ev.bind hi (ev_some (Ev.bind hd (ev_pos d0 (ev_pos (by simpa using d1) (ev_pos i0 (ev_pos i1 (ev_now rfl)))))))))))
      · by_cases e1 : c = 1
        · refine ⟨l.drop 1, s, p2 + 1, Ev.step (fun _ => rfl) ?_, by omega, by omega, by simp; omega, by simp; omega⟩
          simp only [spec_l20Regions.j4]
          exact Ev.bind ho (ev_pos rfl (Ev.bind hc (ev_neg e0 (ev_pos e1 (ev_pos (by omega) (ev_now rfl))))))
        · obtain ⟨s2, p3, hs2, hp3, hp4, _⟩ := spec_l20Size_ev b (p2 + 1) 1 hb (by omega) (by omega) (by omega)
          refine ⟨l, s2, p3, Ev.step (fun _ => rfl) ?_, by omega, by omega, hl1, by omega⟩
          simp only [spec_l20Regions.j4]
          exact Ev.bind ho (ev_pos rfl (Ev.bind hc (ev_neg e0 (ev_neg e1 (Ev.bind hs2 (ev_now rfl))))))
  have j3 : ∀ (l : List Int) (t : Bool) (q : Int), l.length ≤ 16 → 4 ≤ l.length → p1 ≤ q → q ≤ p1 + 80 →
      ∃ l' s' p', Ev (fun k => spec_l20Regions.j3 k n s l t b q) (l', s', p') ∧ p ≤ p' ∧ p' ≤ p + 100 ∧ l'.length ≤ 16 ∧ 3 ≤ l'.length := by
    intro l t q hl1 hl2 hq1 hq2
    cases t with
    | true =>
      obtain ⟨l', s', p', h, h'⟩ := j4 Mo.boxes q (by decide) (by decide) hq1 hq2
      refine ⟨l', s', p', Ev.step (fun _ => rfl) ?_, h'⟩
      simp only [spec_l20Regions.j3]
      exact ev_pos trivial (Ev.bind spec_BoxRegions_ev h)
    | false =>
      obtain ⟨l', s', p', h, h'⟩ := j4 l q hl1 hl2 hq1 hq2
      refine ⟨l', s', p', Ev.step (fun _ => rfl) ?_, h'⟩
      simp only [spec_l20Regions.j3]
      exact ev_neg (by simp) h
  have key : ∀ i, i ≤ N → ∀ (l : List Int) (q : Int), l.length = i → p1 ≤ q → q ≤ p1 + 4 * i →
      ∃ l' s' p', Ev (fun k => spec_l20Regions.l0 k n s l (i : Int) b q) (l', s', p') ∧ p ≤ p' ∧ p' ≤ p + 100 ∧ l'.length ≤ 16 ∧ 3 ≤ l'.length := by
    refine up N ?_ ?_
    · intro l q hl hq1 hq2
      by_cases e4 : s = 4
      · obtain ⟨c, hc, c0, c1, _⟩ := spec_l20Rd_pick_ev b q 3 hb (by omega) (by omega) (by omega)
        obtain ⟨l', s', p', h, h'⟩ := j3 l (c == 0) (q + 1) (by omega) (by omega) (by omega) (by omega)
        refine ⟨l', s', p', Ev.step (fun _ => rfl) ?_, h'⟩
        simp only [spec_l20Regions.l0]
        rw [hw, hN]
        exact ev_neg (by omega) (ev_pos e4 (Ev.bind hc h))
      · obtain ⟨l', s', p', h, h'⟩ := j3 l false q (by omega) (by omega) (by omega) (by omega)
        refine ⟨l', s', p', Ev.step (fun _ => rfl) ?_, h'⟩
        simp only [spec_l20Regions.l0]
        rw [hw, hN]
        exact ev_neg (by omega) (ev_neg e4 h)
    · intro i hi ih l q hl hq1 hq2
      have j2 : ∀ (v q2 : Int), p1 ≤ q2 → q2 ≤ p1 + 4 * i + 1 → ∃ l' s' p', Ev (fun k => spec_l20Regions.j2 k n s l (i : Int) v b q2) (l', s', p') ∧ p ≤ p' ∧ p' ≤ p + 100 ∧ l'.length ≤ 16 ∧ 3 ≤ l'.length := by
        intro v q2 h1 h2
        obtain ⟨c, hc, _⟩ := spec_l20Rd_pick_ev b q2 6 hb (by omega) (by omega) (by omega)
        by_cases e0 : c = 0
        · obtain ⟨d, hd, _⟩ := spec_l20Rd_pick_ev b (q2 + 1) s hb (by omega) (by omega) (by omega)
          obtain ⟨l', s', p', h, h'⟩ := ih (l ++ [d]) (q2 + 1 + 1) (by simp [hl]) (by omega) (by omega)
          refine ⟨l', s', p', Ev.step (fun _ => rfl) ?_, h'⟩
          simp only [spec_l20Regions.j2]
          rw [w64s (by omega)]
          exact Ev.bind hc (ev_pos e0 (Ev.bind hd (ev_pos (by omega) h)))
        · obtain ⟨l', s', p', h, h'⟩ := ih (l ++ [v]) (q2 + 1) (by simp [hl]) (by omega) (by omega)
          refine ⟨l', s', p', Ev.step (fun _ => rfl) ?_, h'⟩
          simp only [spec_l20Regions.j2]
          rw [w64s (by omega)]
          exact Ev.bind hc (ev_neg e0 (ev_pos (by omega) h))
      have j1 : ∀ (v : Int) (t : Bool) (q2 : Int), (t = true → 0 < i) → p1 ≤ q2 → q2 ≤ p1 + 4 * i + 1 → ∃ l' s' p', Ev (fun k => spec_l20Regions.j1 k n s l (i : Int) v t b q2) (l', s', p') ∧ p ≤ p' ∧ p' ≤ p + 100 ∧ l'.length ≤ 16 ∧ 3 ≤ l'.length := by
        intro v t q2 ht h1 h2
        cases t with
        | true =>
          have ht := ht rfl
          have hw1 : wrap64 ((i : Int) - 1) = (i : Int) - 1 := w64 (by omega) (by omega)
          obtain ⟨l', s', p', h, h'⟩ := j2 (rd l ((i : Int) - 1)) q2 h1 h2
          refine ⟨l', s', p', Ev.step (fun _ => rfl) ?_, h'⟩
          simp only [spec_l20Regions.j1]
          rw [hw1]
          exact ev_pos trivial (ev_pos (by omega) (ev_pos (by omega) h))
        | false =>
          obtain ⟨l', s', p', h, h'⟩ := j2 v q2 h1 h2
          refine ⟨l', s', p', Ev.step (fun _ => rfl) ?_, h'⟩
          simp only [spec_l20Regions.j1]
          exact ev_neg (by simp) h
      by_cases hi0 : (i : Int) > 0
      · obtain ⟨c, hc, _⟩ := spec_l20Rd_pick_ev b q 4 hb (by omega) (by omega) (by omega)
        obtain ⟨l', s', p', h, h'⟩ := j1 (wrap64 (Int.tdiv (i : Int) s)) (c == 0) (q + 1) (fun _ => by omega) (by omega) (by omega)
        refine ⟨l', s', p', Ev.step (fun _ => rfl) ?_, h'⟩
        simp only [spec_l20Regions.l0]
        rw [hw, hN]
        exact ev_pos (by omega) (ev_neg (by omega) (ev_pos hi0 (Ev.bind hc h)))
      · obtain ⟨l', s', p', h, h'⟩ := j1 (wrap64 (Int.tdiv (i : Int) s)) false q (fun h => by simp at h) (by omega) (by omega)
        refine ⟨l', s', p', Ev.step (fun _ => rfl) ?_, h'⟩
        simp only [spec_l20Regions.l0]
        rw [hw, hN]
        exact ev_pos (by omega) (ev_neg (by omega) (ev_neg hi0 h))
  obtain ⟨l', s', p', h, h'⟩ := key 0 (by omega) [] p1 rfl (by omega) (by omega)
  exact ⟨l', s', p', Ev.bind hs h, h'⟩
theorem spec_DrawRegionCells_ev (l : List Int) (hw : ∀ x ∈ l, (Lit.int .u8 x).wf = true) : ∃ r s n, Ev (fun k => spec_DrawRegionCells.f k l) (r, s, n) ∧ r.length ≤ 16 ∧ 3 ≤ r.length ∧ -1 ≤ n ∧ n ≤ 4 := by
  obtain ⟨b, hb, hB⟩ := spec_l20Open_ev l hw
  obtain ⟨r, s, p, h, hp1, hp2, h1, h2⟩ := spec_l20Regions_ev b 0 9 hB (by omega) (by omega) (by omega)
  obtain ⟨c, hc, c0, c1, _⟩ := spec_l20Rd_pick_ev b p 6 hB (by omega) (by omega) (by omega)
  have c1 := c1 (by omega)
  refine ⟨r, s, c - 1, ?_, h1, h2, by omega, by omega⟩
  unfold spec_DrawRegionCells.f
  refine ev_bindc hb (Ev.bind h (Ev.bind hc (ev_now ?_)))
  rw [w64 (by omega) (by omega)]
end XFnRegionCells
open XFnRegionCells
theorem places_sum (s : Nat) : ∀ (l : List Int) (i : Nat), (∀ x ∈ l, 0 ≤ x ∧ x < (s : Int)) → ((List.range s).map fun (r : Nat) => (Mo.places (r : Int) i l).length).sum = l.length
  | [], i, _ => by
    simp only [Mo.places, List.length_nil]
    induction s with
    | zero => rfl
    | succ n ih => rw [List.range_succ]; simp_all
  | x :: t, i, h => by
    have ih := places_sum s t (i + 1) (fun y hy => h y (by simp [hy]))
    have hx := h x (by simp)
    have key : ∀ m : Nat, ((List.range m).map fun (r : Nat) => (Mo.places (r : Int) i (x :: t)).length).sum = ((List.range m).map fun (r : Nat) => (Mo.places (r : Int) (i + 1) t).length).sum + if x < (m : Int) then 1 else 0 := by
      intro m
      induction m with
      | zero => simp; omega
      | succ m ihm =>
        rw [List.range_succ]
        simp only [List.map_append, List.map_cons, List.map_nil, List.sum_append, List.sum_cons, List.sum_nil]
        rw [ihm]
        by_cases e : x = (m : Int)
        · have e1 : (Mo.places (m : Int) i (x :: t)).length = (Mo.places (m : Int) (i + 1) t).length + 1 := by simp [Mo.places, e]
          rw [e1, if_neg (by omega), if_pos (by omega)]; omega
        · have e1 : (Mo.places (m : Int) i (x :: t)).length = (Mo.places (m : Int) (i + 1) t).length := by simp [Mo.places, e]
          rw [e1]
          by_cases h1 : x < (m : Int)
          · rw [if_pos h1, if_pos (by omega)]; omega
          · rw [if_neg h1, if_neg (by omega)]; omega
    rw [key s, ih, if_pos hx.2]; rfl
theorem FnRegionCells : laws_FnRegionCells.Pure := by
  intro l _ _ hw
  refine Ev.rounds (r := true) ?_
  unfold laws_FnRegionCells.f
  by_cases hl : (l.length : Int) > 1048576
  · exact ev_pos hl (ev_now rfl)
  refine ev_neg hl ?_
  obtain ⟨g, s, n, hd, hg1, hg2, hn1, hn2⟩ := spec_DrawRegionCells_ev l hw
  generalize hR : (if Mo.SqOk (s - 1) g s ∧ 0 ≤ n ∧ n < s then Mo.places n 0 g else []) = R
  have hRl : R.length ≤ g.length := by rw [← hR]; split <;> simp [Mo.places_length]
  have hi : Ev (fun k => impl_RegionCells.f k g s n) R := hR ▸ impl_RegionCells_ev g s n (by omega)
  have hs : Ev (fun k => spec_RegionCells.f k g s n) R := hR ▸ spec_RegionCells_ev g s n (by omega)
  have heR : Ev (fun k => laws_sameInts.f k R R) true := by simpa using laws_sameInts_ev R R (by omega)
  refine Ev.bind hd (Ev.bind hi (Ev.bind hs (Ev.bind heR (ev_pos rfl (Ev.bind (spec_RegionsValid_ev g s (by omega)) ?_)))))
  by_cases hv' : ¬ Mo.SqOk (s - 1) g s
  · have hv := hv'
    refine ev_neg (by simpa using hv) (ev_pos ?_ (Ev.bind laws_alive_ev (ev_now rfl)))
    rw [← hR, if_neg (fun h => hv h.1)]; rfl
  have hv := Classical.not_not.1 hv'
  refine ev_pos (by simpa using hv) ?_
  have hsz := hv.1
  have hsz' := hsz
  unfold Mo.SizeOk at hsz'
  have hw2 : wrap64 (s * s) = s * s := by rcases hsz.cases with rfl | rfl | rfl <;> exact w64 (by decide) (by decide)
  have hmem : ∀ c ∈ R, ∃ j, j < g.length ∧ c = (j : Int) ∧ g[j]? = some n := by
    intro c hc
    rw [← hR] at hc
    split at hc
    · obtain ⟨j, h1, h2, h3⟩ := Mo.places_mem hc
      exact ⟨j, h1, by simpa using h2, h3⟩
    · cases hc
  have hsort : R.Pairwise (· < ·) := by
    rw [← hR]; split
    · exact Mo.places_sorted _ _ _
    · exact List.Pairwise.nil
  have l1 : ∀ i, i ≤ R.length → Ev (fun k => laws_FnRegionCells.l1 k g s n R (s * s) (i : Int)) true := by
    refine up R.length ?_ ?_
    · refine Ev.step (fun _ => rfl) ?_
      simp only [laws_FnRegionCells.l1]
      exact ev_neg (by omega) (ev_now (by rw [hw2]; simp))
    · intro i hi ih
      refine Ev.step (fun _ => rfl) ?_
      simp only [laws_FnRegionCells.l1]
      rw [rd_nat R i hi, w64s (by omega)]
      obtain ⟨j, h1, h2, h3⟩ := hmem R[i] (List.getElem_mem _)
      have h4 : rd g R[i] = n := by
        rw [h2, rd_nat g j h1]
        rw [List.getElem?_eq_getElem h1] at h3
        exact Option.some.inj h3
      refine ev_pos (by omega) (ev_pos (by omega) (ev_neg (by omega) (ev_neg (by omega) (ev_pos (by omega) (ev_pos (by omega) (ev_pos h4 ?_))))))
      by_cases hi0 : (i : Int) > 0
      · have hw1 : wrap64 ((i : Int) - 1) = ((i - 1 : Nat) : Int) := by rw [w64 (by omega) (by omega)]; omega
        rw [hw1, rd_nat R (i - 1) (by omega)]
        have := List.pairwise_iff_getElem.1 hsort (i - 1) i (by omega) hi (by omega)
        exact ev_pos hi0 (ev_pos (by omega) (ev_pos (by omega) (ev_neg (by omega) ih)))
      · exact ev_neg hi0 ih
  have l0 : ∀ i, i ≤ s.toNat → ∀ t : Int, t = (((List.range i).map fun (r : Nat) => (Mo.places (r : Int) 0 g).length).sum : Nat) →
      Ev (fun k => laws_FnRegionCells.l0 k g s n R t (i : Int)) true := by
    refine up s.toNat ?_ ?_
    · intro t ht
      rw [places_sum s.toNat g 0 (fun x hx => by have := hv.2.2 x hx; omega)] at ht
      have ht' : t = s * s := by rw [ht]; exact hv.2.1
      refine Ev.step (fun _ => rfl) ?_
      simp only [laws_FnRegionCells.l0]
      rw [ht']
      exact ev_neg (by omega) (by simpa using l1 0 (by omega))
    · intro i hi ih t ht
      have hb : (((List.range i).map fun (r : Nat) => (Mo.places (r : Int) 0 g).length).sum : Nat) ≤ i * g.length := by
        clear ih ht hi
        induction i with
        | zero => simp
        | succ i ihi =>
          rw [List.range_succ]
          simp only [List.map_append, List.map_cons, List.map_nil, List.sum_append, List.sum_cons, List.sum_nil]
          have := Mo.places_length (i : Int) g 0
          rw [Nat.succ_mul]; omega
      have hb2 : i * g.length ≤ 4 * 16 := Nat.mul_le_mul (by omega) hg1
      have hb3 := Mo.places_length (i : Int) g 0
      refine Ev.step (fun _ => rfl) ?_
      simp only [laws_FnRegionCells.l0]
      refine ev_pos (by omega) (Ev.bind (impl_RegionCells_ev g s (i : Int) (by omega)) ?_)
      rw [if_pos ⟨hv, by omega, by omega⟩, w64s (by omega), w64 (n := t + _) (by omega) (by omega)]
      refine ih _ ?_
      rw [List.range_succ]
      simp only [List.map_append, List.map_cons, List.map_nil, List.sum_append, List.sum_cons, List.sum_nil]
      omega
  simpa using l0 0 (by omega) 0 rfl

end Go.Proofs.Ytinockknikfmgaa.Pure
