/- RegionConnected: a connected region with more than one cell has a neighbour for each of them in it; a region with one cell is connected; at every drawn list. No conditions. -/
import Derived.Test.YtdinbpfklikghaaPFnRegionConnectedx8
import Derived.Test.YtdinbpfklikghaaMo
set_option linter.unusedSimpArgs false
set_option linter.unusedVariables false
set_option maxRecDepth 4000
namespace Go.Proofs.Ytdinbpfklikghaa.Pure
open Go.RowKit Go.Proofs.Ytdinbpfklikghaa.PFnRegionConnected Go.Proofs.Ytdinbpfklikghaa.Pk Go.Proofs.Ytdinbpfklikghaa.Mo Go.Proofs.YtdinbpfklikghaaW.PrintWords Go.Proofs.YtdinbpfklikghaaW.PrintLast

namespace XFnRegionConnected
theorem impl_sizeOk_eq (s : Int) : impl_sizeOk.f s = some (decide (Mo.SizeOk s)) := by
  unfold impl_sizeOk.f Mo.SizeOk
  by_cases h : s ≥ 2
  · rw [if_pos h]; simp [show (2 : Int) ≤ s from h]
  · rw [if_neg h]; simp [show ¬ (2 : Int) ≤ s from h]
theorem spec_l1In_eq (n lo hi : Int) : spec_l1In.f n lo hi = some (decide (lo ≤ n ∧ n ≤ hi)) := by
  unfold spec_l1In.f
  by_cases h : n ≥ lo
  · rw [if_pos h]; simp [show lo ≤ n from h]
  · rw [if_neg h]; simp [show ¬ lo ≤ n from h]
theorem impl_RegionsValid_ev (l : List Int) (s : Int) (hl : l.length ≤ 4611686018427387904) : Ev (fun k => impl_RegionsValid.f k l s) (decide (Mo.SqOk (s - 1) l s)) := by
  have key : ∀ i, i ≤ l.length → Ev (fun k => impl_RegionsValid.l0 k s l (l.length : Int) (i : Int)) (decide (Mo.AllIn 0 (s - 1) (l.drop i))) := by
    refine up l.length ?_ ?_
    · refine Ev.step (fun _ => rfl) ?_
      simp only [impl_RegionsValid.l0]
      refine ev_neg (by omega) (ev_now ?_)
      simp [Mo.AllIn.nil]
    · intro i hi ih
      refine Ev.step (fun _ => rfl) ?_
      simp only [impl_RegionsValid.l0]
      refine ev_pos (by omega) (ev_pos (by omega) (ev_pos (by omega) ?_))
      rw [rd_nat l i hi, w64s (by omega), drop_step l i hi]
      by_cases e : l[i] < 0
      · refine ev_pos e (ev_now ?_)
        symm; rw [decide_eq_false_iff_not, Mo.AllIn.cons]; omega
      · refine ev_neg e ?_
        by_cases e' : l[i] ≥ s
        · refine ev_pos e' (ev_now ?_)
          symm; rw [decide_eq_false_iff_not, Mo.AllIn.cons]; omega
        · refine ev_neg e' (ev_of_eq ih ?_)
          rw [decide_eq_decide, Mo.AllIn.cons]
          exact ⟨fun h => ⟨by omega, h⟩, fun h => h.2⟩
  unfold impl_RegionsValid.f
  refine ev_bindc (impl_sizeOk_eq s) ?_
  by_cases hs : Mo.SizeOk s
  · have hs' := hs
    unfold Mo.SizeOk at hs'
    refine ev_pos (by simpa using hs) (Ev.step (fun _ => rfl) ?_)
    simp only [impl_RegionsValid.j0]
    have hw : wrap64 (s * s) = s * s := by rcases hs.cases with rfl | rfl | rfl <;> exact w64 (by decide) (by decide)
    rw [hw]
    by_cases hn : (l.length : Int) = s * s
    · refine ev_neg (by simp [hn]) (ev_of_eq (key 0 (by omega)) ?_)
      rw [decide_eq_decide]
      exact ⟨fun h => ⟨hs, hn, by simpa using h⟩, fun h => by simpa using h.2.2⟩
    · refine ev_pos (by simp [hn]) (ev_now ?_)
      symm; rw [decide_eq_false_iff_not]; exact fun h => hn h.2.1
  · refine ev_neg (by simpa using hs) (Ev.step (fun _ => rfl) ?_)
    simp only [impl_RegionsValid.j0]
    refine ev_pos trivial (ev_now ?_)
    symm; rw [decide_eq_false_iff_not]; exact fun h => hs h.1
theorem spec_RegionsValid_ev (l : List Int) (s : Int) (hl : l.length ≤ 4611686018427387904) : Ev (fun k => spec_RegionsValid.f k l s) (decide (Mo.SqOk (s - 1) l s)) := by
  by_cases hs : Mo.SizeOk s
  · have hs' := hs
    unfold Mo.SizeOk at hs'
    have hw : wrap64 (s * s) = s * s := by rcases hs.cases with rfl | rfl | rfl <;> exact w64 (by decide) (by decide)
    have hw1 : wrap64 (s - 1) = s - 1 := w64 (by omega) (by omega)
    have key : ∀ i, i ≤ l.length → Ev (fun k => spec_RegionsValid.l0 k l s (i : Int)) (decide ((l.length : Int) = s * s ∧ Mo.AllIn 0 (s - 1) (l.drop i))) := by
      refine up l.length ?_ ?_
      · refine Ev.step (fun _ => rfl) ?_
        simp only [spec_RegionsValid.l0]
        refine ev_neg (by omega) (ev_bindc (spec_l1In_eq _ _ _) (ev_pos (by simpa using hs') (ev_now ?_)))
        simp [Mo.AllIn.nil, hw]
        exact (Bool.beq_eq_decide_eq _ _)
      · intro i hi ih
        refine Ev.step (fun _ => rfl) ?_
        simp only [spec_RegionsValid.l0]
        refine ev_pos (by omega) (ev_pos (by omega) (ev_bindc (spec_l1In_eq _ _ _) ?_))
        rw [rd_nat l i hi, w64s (by omega), drop_step l i hi, hw1]
        by_cases e : 0 ≤ l[i] ∧ l[i] ≤ s - 1
        · refine ev_pos (by simpa using e) (ev_of_eq ih ?_)
          rw [decide_eq_decide, Mo.AllIn.cons]
          exact ⟨fun h => ⟨h.1, e, h.2⟩, fun h => ⟨h.1, h.2.2⟩⟩
        · refine ev_neg (by simpa using e) (ev_now ?_)
          symm; rw [decide_eq_false_iff_not, Mo.AllIn.cons]; exact fun h => e h.2.1
    unfold spec_RegionsValid.f
    refine ev_of_eq (key 0 (by omega)) ?_
    rw [decide_eq_decide]
    exact ⟨fun h => ⟨hs, by simpa using h⟩, fun h => by simpa using h.2⟩
  · have key : ∀ i, i ≤ l.length → Ev (fun k => spec_RegionsValid.l0 k l s (i : Int)) false := by
      refine up l.length ?_ ?_
      · refine Ev.step (fun _ => rfl) ?_
        simp only [spec_RegionsValid.l0]
        exact ev_neg (by omega) (ev_bindc (spec_l1In_eq _ _ _) (ev_neg (by simpa [Mo.SizeOk] using hs) (ev_now rfl)))
      · intro i hi ih
        refine Ev.step (fun _ => rfl) ?_
        simp only [spec_RegionsValid.l0]
        refine ev_pos (by omega) (ev_pos (by omega) (ev_bindc (spec_l1In_eq _ _ _) ?_))
        rw [w64s (by omega)]
        by_cases e : decide (0 ≤ rd l (i : Int) ∧ rd l (i : Int) ≤ wrap64 (s - 1)) = true
        · exact ev_pos e ih
        · exact ev_neg e (ev_now rfl)
    unfold spec_RegionsValid.f
    refine ev_of_eq (key 0 (by omega)) ?_
    symm; rw [decide_eq_false_iff_not]; exact fun h => hs h.1
theorem impl_RegionCells_ev (l : List Int) (s r : Int) (hl : l.length ≤ 4611686018427387904) : Ev (fun k => impl_RegionCells.f k l s r) (if Mo.SqOk (s - 1) l s ∧ 0 ≤ r ∧ r < s then Mo.places r 0 l else []) := by
  unfold impl_RegionCells.f
  refine Ev.bind (impl_RegionsValid_ev l s hl) ?_
  by_cases hv : Mo.SqOk (s - 1) l s
  · have h16 := hv.len16
    have key : ∀ i, i ≤ l.length → ∀ acc : List Int, acc.length ≤ i → Ev (fun k => impl_RegionCells.l0 k r acc l (l.length : Int) (i : Int)) (acc ++ Mo.places r i (l.drop i)) := by
      refine up l.length ?_ ?_
      · intro acc ha
        refine Ev.step (fun _ => rfl) ?_
        simp only [impl_RegionCells.l0]
        refine ev_neg (by omega) (ev_now ?_)
        simp [Mo.places]
      · intro i hi ih acc ha
        refine Ev.step (fun _ => rfl) ?_
        simp only [impl_RegionCells.l0]
        refine ev_pos (by omega) (ev_pos (by omega) (ev_pos (by omega) ?_))
        rw [rd_nat l i hi, w64s (by omega), drop_step l i hi]
        by_cases e : l[i] = r
        · refine ev_pos e (ev_pos (by omega) (ev_of_eq (ih (acc ++ [(i : Int)]) (by simp; omega)) ?_))
          simp [Mo.places, e]
        · refine ev_neg e (ev_of_eq (ih acc (by omega)) ?_)
          simp [Mo.places, e]
    refine ev_pos (by simpa using hv) ?_
    by_cases h0 : r < 0
    · refine ev_pos h0 (Ev.step (fun _ => rfl) ?_)
      simp only [impl_RegionCells.j0]
      refine ev_pos trivial (ev_now ?_)
      rw [if_neg (by omega)]
    · refine ev_neg h0 (Ev.step (fun _ => rfl) ?_)
      simp only [impl_RegionCells.j0]
      by_cases h1 : r < s
      · refine ev_neg (by simp; omega) (ev_of_eq (key 0 (by omega) [] (by simp)) ?_)
        rw [if_pos ⟨hv, by omega, h1⟩]; simp
      · refine ev_pos (by simp; omega) (ev_now ?_)
        rw [if_neg (by omega)]
  · refine ev_neg (by simpa using hv) (Ev.step (fun _ => rfl) ?_)
    simp only [impl_RegionCells.j0]
    refine ev_pos trivial (ev_now ?_)
    rw [if_neg (fun h => hv h.1)]
theorem spec_RegionCells_ev (l : List Int) (s r : Int) (hl : l.length ≤ 4611686018427387904) : Ev (fun k => spec_RegionCells.f k l s r) (if Mo.SqOk (s - 1) l s ∧ 0 ≤ r ∧ r < s then Mo.places r 0 l else []) := by
  by_cases hv : Mo.SqOk (s - 1) l s
  · have h16 := hv.len16
    have key : ∀ i, i ≤ l.length → ∀ acc : List Int, acc.length ≤ i → Ev (fun k => spec_RegionCells.l0 k l s r acc (i : Int)) (acc ++ Mo.places r i (l.drop i)) := by
      refine up l.length ?_ ?_
      · intro acc ha
        refine Ev.step (fun _ => rfl) ?_
        simp only [spec_RegionCells.l0]
        refine ev_neg (by omega) (Ev.step (fun _ => rfl) ?_)
        simp only [spec_RegionCells.j1]
        refine ev_neg (by simp) (ev_now ?_)
        simp [Mo.places]
      · intro i hi ih acc ha
        refine Ev.step (fun _ => rfl) ?_
        simp only [spec_RegionCells.l0]
        refine ev_pos (by omega) (Ev.bind (spec_RegionsValid_ev l s hl) (Ev.step (fun _ => rfl) ?_))
        simp only [spec_RegionCells.j1]
        refine ev_pos (by simpa using hv) (ev_pos (by omega) (ev_pos (by omega) ?_))
        rw [rd_nat l i hi, w64s (by omega), drop_step l i hi]
        by_cases e : l[i] = r
        · refine ev_pos e (ev_pos (by omega) (ev_of_eq (ih (acc ++ [(i : Int)]) (by simp; omega)) ?_))
          simp [Mo.places, e]
        · refine ev_neg e (ev_of_eq (ih acc (by omega)) ?_)
          simp [Mo.places, e]
    unfold spec_RegionCells.f
    refine ev_of_eq (key 0 (by omega) [] (by simp)) ?_
    by_cases h1 : 0 ≤ r ∧ r < s
    · rw [if_pos ⟨hv, h1⟩]; simp
    · rw [if_neg (fun h => h1 h.2)]
      rw [Mo.places_none]; simp
      intro x hx e
      have := hv.2.2 x (by simpa using hx)
      omega
  · rw [if_neg (fun h => hv h.1)]
    unfold spec_RegionCells.f
    refine Ev.step (fun _ => rfl) ?_
    simp only [spec_RegionCells.l0]
    by_cases h0 : (0 : Int) < l.length
    · refine ev_pos h0 (Ev.bind (spec_RegionsValid_ev l s hl) (Ev.step (fun _ => rfl) ?_))
      simp only [spec_RegionCells.j1]
      exact ev_neg (by simpa using hv) (ev_now rfl)
    · refine ev_neg h0 (Ev.step (fun _ => rfl) ?_)
      simp only [spec_RegionCells.j1]
      exact ev_neg (by simp) (ev_now rfl)
theorem laws_alive_ev : Ev (fun k => laws_alive.f k) true := Ev.of laws_alive.mono (k := 12) (by decide +kernel)
theorem spec_BoxRegions_ev : Ev (fun k => spec_BoxRegions.f k) Mo.boxes := Ev.of spec_BoxRegions.mono (k := 20) (by decide +kernel)
/-- A code, as the reader of draws takes it. -/
def Bytes (b : List Int) : Prop := b.length ≤ 2000 ∧ ∀ x ∈ b, 0 ≤ x ∧ x ≤ 255
theorem spec_l20Open_ev (l : List Int) (hw : ∀ x ∈ l, (Lit.int .u8 x).wf = true) : ∃ b, spec_l20Open.f l = some (b, 0) ∧ Bytes b := by
  unfold spec_l20Open.f
  by_cases h : (l.length : Int) > 2000
  · refine ⟨l.take 2000, ?_, ?_, fun x hx => wf_u8.1 (hw x (List.mem_of_mem_take hx))⟩
    · rw [if_pos h, if_pos (by omega)]
    · simp; omega
  · exact ⟨l, by rw [if_neg h], by omega, fun x hx => wf_u8.1 (hw x hx)⟩
theorem spec_l20Rd_pick_ev (b : List Int) (p n : Int) (hb : Bytes b) (h0 : 0 ≤ p) (hp : p ≤ 1000000000) (hn : n ≤ 1000000000) :
    ∃ r, Ev (fun k => spec_l20Rd_pick.f k b p n) (r, p + 1) ∧ 0 ≤ r ∧ (1 ≤ n → r < n) ∧ (n < 1 → r = 0) := by
  unfold spec_l20Rd_pick.f
  rw [w64 (n := p + 1) (by omega) (by omega)]
  by_cases hn1 : n < 1
  · refine ⟨0, ev_pos hn1 (Ev.step (fun _ => rfl) ?_), by omega, by omega, fun _ => rfl⟩
    simp only [spec_l20Rd_pick.j0]
    exact ev_pos trivial (ev_now rfl)
  · by_cases hl : b.length = 0
    · refine ⟨0, ev_neg hn1 (Ev.step (fun _ => rfl) ?_), by omega, by omega, by omega⟩
      simp only [spec_l20Rd_pick.j0]
      exact ev_pos (by simp [hl]) (ev_now rfl)
    · have hmem : ∀ i : Int, 0 ≤ i → i < b.length → 0 ≤ rd b i ∧ rd b i ≤ 255 := fun i h h' => hb.2 _ (rd_mem b i h h')
      have hne : ¬ (((b.length : Int) == 0) = true) := fun h => hl (by have := eq_of_beq h; omega)
      have hp1 : wrap64 (p + 1 - 1) = p := by rw [w64 (by omega) (by omega)]; omega
      by_cases hk : p < b.length
      · have hr := hmem p h0 hk
        refine ⟨Int.tmod (wrap64 (rd b p)) n, ev_neg hn1 (Ev.step (fun _ => rfl) ?_), ?_, ?_, by omega⟩
        · simp only [spec_l20Rd_pick.j0]
          rw [hp1]
          exact ev_neg hne (ev_pos hk (ev_pos h0 (ev_neg (by omega) (ev_now rfl))))
        · rw [w64 (by omega) (by omega), Int.tmod_eq_emod_of_nonneg (by omega)]; exact Int.emod_nonneg _ (by omega)
        · intro _; rw [w64 (by omega) (by omega), Int.tmod_eq_emod_of_nonneg (by omega)]; exact Int.emod_lt_of_pos _ (by omega)
      · have hL : (0 : Int) < b.length := by omega
        have e7 : wrap64 (wrap64 (p * 7) + 3) = p * 7 + 3 := by rw [w64 (n := p * 7) (by omega) (by omega), w64 (by omega) (by omega)]
        have m1 : Int.tmod p b.length = p % b.length := Int.tmod_eq_emod_of_nonneg h0
        have m2 : Int.tmod (p * 7 + 3) b.length = (p * 7 + 3) % b.length := Int.tmod_eq_emod_of_nonneg (by omega)
        have a1 := Int.emod_nonneg p (b := (b.length : Int)) (by omega)
        have a2 := Int.emod_lt_of_pos p hL
        have b1 := Int.emod_nonneg (p * 7 + 3) (b := (b.length : Int)) (by omega)
        have b2 := Int.emod_lt_of_pos (p * 7 + 3) hL
        have r1 := hmem _ a1 a2
        have r2 := hmem _ b1 b2
        have d0 : 0 ≤ Int.tdiv p b.length := by rw [Int.tdiv_eq_ediv_of_nonneg h0]; exact Int.ediv_nonneg h0 (by omega)
        have d1 : Int.tdiv p b.length ≤ p := by rw [Int.tdiv_eq_ediv_of_nonneg h0]; exact Int.ediv_le_self _ h0
        generalize hx : wrap64 (wrap64 (wrap64 (wrap64 (wrap64 (rd b (p % b.length)) * 131) + wrap64 (wrap64 (rd b ((p * 7 + 3) % b.length)) * 1117)) + wrap64 (p * 29)) + wrap64 (wrap64 (Int.tdiv p b.length) * 53)) = x
        have hx0 : 0 ≤ x ∧ x ≤ 100000000000 := by
          rw [← hx]
          rw [w64 (n := rd b (p % b.length)) (by omega) (by omega), w64 (n := rd b ((p * 7 + 3) % b.length)) (by omega) (by omega), w64 (n := Int.tdiv p b.length) (by omega) (by omega)]
          rw [w64 (n := rd b (p % b.length) * 131) (by omega) (by omega), w64 (n := rd b ((p * 7 + 3) % b.length) * 1117) (by omega) (by omega), w64 (n := p * 29) (by omega) (by omega), w64 (n := Int.tdiv p b.length * 53) (by omega) (by omega)]
          rw [w64 (n := rd b (p % b.length) * 131 + rd b ((p * 7 + 3) % b.length) * 1117) (by omega) (by omega)]
          rw [w64 (n := rd b (p % b.length) * 131 + rd b ((p * 7 + 3) % b.length) * 1117 + p * 29) (by omega) (by omega)]
          rw [w64 (by omega) (by omega)]
          omega
        have hq : wrap64 (Int.tdiv x 64) = x / 64 := by rw [Int.tdiv_eq_ediv_of_nonneg hx0.1, w64 (by omega) (by omega)]
        have hz : 0 ≤ Go.bits .xor .i64 x (x / 64) := xor_nonneg _ _ (by omega) (by omega) (by omega) (by omega)
        refine ⟨Int.tmod (Go.bits .xor .i64 x (x / 64)) n, ev_neg hn1 (Ev.step (fun _ => rfl) ?_), ?_, ?_, by omega⟩
        · simp only [spec_l20Rd_pick.j0]
          rw [hp1, e7, m1, m2, hx, hq]
          exact ev_neg hne (ev_neg hk (ev_neg (by omega) (ev_pos a1 (ev_pos a2 (ev_pos b1 (ev_pos b2 (ev_neg (by omega) (ev_now rfl))))))))
        · rw [Int.tmod_eq_emod_of_nonneg hz]; exact Int.emod_nonneg _ (by omega)
        · intro _; rw [Int.tmod_eq_emod_of_nonneg hz]; exact Int.emod_lt_of_pos _ (by omega)
theorem spec_l20Rd_odd_ev (b : List Int) (p n : Int) (hb : Bytes b) (h0 : 0 ≤ p) (hp : p ≤ 1000000000) (hn : n ≤ 1000000000) :
    ∃ r p', Ev (fun k => spec_l20Rd_odd.f k b p n) (r, p') ∧ p ≤ p' ∧ p' ≤ p + 1 ∧ (n ≤ 0 → r = false ∧ p' = p) := by
  unfold spec_l20Rd_odd.f
  by_cases h : n > 0
  · obtain ⟨r, hr, _⟩ := spec_l20Rd_pick_ev b p n hb h0 hp hn
    exact ⟨_, _, ev_pos h (Ev.bind hr (ev_now rfl)), by omega, by omega, by omega⟩
  · exact ⟨_, _, ev_neg h (ev_now rfl), by omega, by omega, fun _ => ⟨rfl, rfl⟩⟩
theorem spec_l20Size_ev (b : List Int) (p n : Int) (hb : Bytes b) (h0 : 0 ≤ p) (hp : p ≤ 900000000) (hn : n ≤ 1000000000) :
    ∃ s p', Ev (fun k => spec_l20Size.f k b p n) (s, p') ∧ p ≤ p' ∧ p' ≤ p + 2 ∧ (-1 ≤ s ∧ s ≤ 5) ∧ (n ≤ 0 → Mo.SizeOk s) := by
  unfold spec_l20Size.f
  obtain ⟨r, p1, hr, h1, h2, h3⟩ := spec_l20Rd_odd_ev b p n hb h0 (by omega) hn
  cases r with
  | true =>
    obtain ⟨q, hq, q0, q1, _⟩ := spec_l20Rd_pick_ev b p1 3 hb (by omega) (by omega) (by omega)
    have q1 := q1 (by omega)
    have hc : q = 0 ∨ q = 1 ∨ q = 2 := by omega
    refine ⟨rd [1, 5, -1] q, p1 + 1, Ev.bind hr (ev_pos rfl (ev_some (Ev.bind hq (ev_pos q0 (ev_pos (by simpa using q1) (ev_now rfl)))))), by omega, by omega, ?_, fun h => ?_⟩
    · rcases hc with rfl | rfl | rfl <;> decide
    · exact absurd (h3 h).1 (by simp)
  | false =>
    obtain ⟨q, hq, q0, q1, _⟩ := spec_l20Rd_pick_ev b p1 5 hb (by omega) (by omega) (by omega)
    have q1 := q1 (by omega)
    have hc : q = 0 ∨ q = 1 ∨ q = 2 ∨ q = 3 ∨ q = 4 := by omega
    refine ⟨rd [2, 3, 3, 4, 4] q, p1 + 1, Ev.bind hr (ev_neg (by simp) (ev_some (Ev.bind hq (ev_pos q0 (ev_pos (by simpa using q1) (ev_now rfl)))))), by omega, by omega, ?_, fun h => ?_⟩
    · rcases hc with rfl | rfl | rfl | rfl | rfl <;> decide
    · rcases hc with rfl | rfl | rfl | rfl | rfl <;> decide
theorem spec_l20Regions_ev (b : List Int) (p n : Int) (hb : Bytes b) (h0 : 0 ≤ p) (hp : p ≤ 800000000) (hn : n ≤ 1000000000) :
    ∃ l s p', Ev (fun k => spec_l20Regions.f k b p n) (l, s, p') ∧ p ≤ p' ∧ p' ≤ p + 100 ∧ l.length ≤ 16 ∧ 3 ≤ l.length := by
  unfold spec_l20Regions.f
  obtain ⟨s, p1, hs, hp1, hp2, _, hsz⟩ := spec_l20Size_ev b p 0 hb h0 (by omega) (by omega)
  have hsz := hsz (by omega)
  have hsz' := hsz
  unfold Mo.SizeOk at hsz'
  have hw : wrap64 (s * s) = s * s := by rcases hsz.cases with rfl | rfl | rfl <;> exact w64 (by decide) (by decide)
  obtain ⟨N, hN⟩ : ∃ N : Nat, s * s = N := ⟨(s * s).toNat, by rcases hsz.cases with rfl | rfl | rfl <;> rfl⟩
  have hN4 : 4 ≤ N ∧ N ≤ 16 := by rcases hsz.cases with rfl | rfl | rfl <;> omega
  -- behind the list
  have j4 : ∀ (l : List Int) (q : Int), l.length ≤ 16 → 4 ≤ l.length → p1 ≤ q → q ≤ p1 + 80 →
      ∃ l' s' p', Ev (fun k => spec_l20Regions.j4 k n s l b q) (l', s', p') ∧ p ≤ p' ∧ p' ≤ p + 100 ∧ l'.length ≤ 16 ∧ 3 ≤ l'.length := by
    intro l q hl1 hl2 hq1 hq2
    obtain ⟨o, p2, ho, ho1, ho2, _⟩ := spec_l20Rd_odd_ev b q n hb (by omega) (by omega) hn
    cases o with
    | false =>
      refine ⟨l, s, p2, Ev.step (fun _ => rfl) ?_, by omega, by omega, hl1, by omega⟩
      simp only [spec_l20Regions.j4]
      exact Ev.bind ho (ev_neg (by simp) (ev_now rfl))
    | true =>
      obtain ⟨c, hc, c0, c1, _⟩ := spec_l20Rd_pick_ev b p2 3 hb (by omega) (by omega) (by omega)
      have c1 := c1 (by omega)
      by_cases e0 : c = 0
      · obtain ⟨i, hi, i0, i1, _⟩ := spec_l20Rd_pick_ev b (p2 + 1) (l.length : Int) hb (by omega) (by omega) (by omega)
        have i1 := i1 (by omega)
        obtain ⟨d, hd, d0, d1, _⟩ := spec_l20Rd_pick_ev b (p2 + 1 + 1) 2 hb (by omega) (by omega) (by omega)
        have d1 := d1 (by omega)
        refine ⟨l.set i.toNat (rd [-1, s] d), s, p2 + 1 + 1 + 1, Ev.step (fun _ => rfl) ?_, by omega, by omega, by simpa using hl1, by simp; omega⟩
        simp only [spec_l20Regions.j4]
        exact Ev.bind ho (ev_pos rfl (Ev.bind hc (ev_pos e0 (Ev.bind hi (ev_some (Ev.bind hd (ev_pos d0 (ev_pos (by simpa using d1) (ev_pos i0 (ev_pos i1 (ev_now rfl)))))))))))
      · by_cases e1 : c = 1
        · refine ⟨l.drop 1, s, p2 + 1, Ev.step (fun _ => rfl) ?_, by omega, by omega, by simp; omega, by simp; omega⟩
          simp only [spec_l20Regions.j4]
          exact Ev.bind ho (ev_pos rfl (Ev.bind hc (ev_neg e0 (ev_pos e1 (ev_pos (by omega) (ev_now rfl))))))
        · obtain ⟨s2, p3, hs2, hp3, hp4, _⟩ := spec_l20Size_ev b (p2 + 1) 1 hb (by omega) (by omega) (by omega)
          refine ⟨l, s2, p3, Ev.step (fun _ => rfl) ?_, by omega, by omega, hl1, by omega⟩
          simp only [spec_l20Regions.j4]
          exact Ev.bind ho (ev_pos rfl (Ev.bind hc (ev_neg e0 (ev_neg e1 (Ev.bind hs2 (ev_now rfl))))))
  have j3 : ∀ (l : List Int) (t : Bool) (q : Int), l.length ≤ 16 → 4 ≤ l.length → p1 ≤ q → q ≤ p1 + 80 →
      ∃ l' s' p', Ev (fun k => spec_l20Regions.j3 k n s l t b q) (l', s', p') ∧ p ≤ p' ∧ p' ≤ p + 100 ∧ l'.length ≤ 16 ∧ 3 ≤ l'.length := by
    intro l t q hl1 hl2 hq1 hq2
    cases t with
    | true =>
      obtain ⟨l', s', p', h, h'⟩ := j4 Mo.boxes q (by decide) (by decide) hq1 hq2
      refine ⟨l', s', p', Ev.step (fun _ => rfl) ?_, h'⟩
      simp only [spec_l20Regions.j3]
      exact ev_pos trivial (Ev.bind spec_BoxRegions_ev h)
    | false =>
      obtain ⟨l', s', p', h, h'⟩ := j4 l q hl1 hl2 hq1 hq2
      refine ⟨l', s', p', Ev.step (fun _ => rfl) ?_, h'⟩
      simp only [spec_l20Regions.j3]
      exact ev_neg (by simp) h
  have key : ∀ i, i ≤ N → ∀ (l : List Int) (q : Int), l.length = i → p1 ≤ q → q ≤ p1 + 4 * i →
      ∃ l' s' p', Ev (fun k => spec_l20Regions.l0 k n s l (i : Int) b q) (l', s', p') ∧ p ≤ p' ∧ p' ≤ p + 100 ∧ l'.length ≤ 16 ∧ 3 ≤ l'.length := by
    refine up N ?_ ?_
    · intro l q hl hq1 hq2
      by_cases e4 : s = 4
      · obtain ⟨c, hc, c0, c1, _⟩ := spec_l20Rd_pick_ev b q 3 hb (by omega) (by omega) (by omega)
        obtain ⟨l', s', p', h, h'⟩ := j3 l (c == 0) (q + 1) (by omega) (by omega) (by omega) (by omega)
        refine ⟨l', s', p', Ev.step (fun _ => rfl) ?_, h'⟩
        simp only [spec_l20Regions.l0]
        rw [hw, hN]
        exact ev_neg (by omega) (ev_pos e4 (Ev.bind hc h))
      · obtain ⟨l', s', p', h, h'⟩ := j3 l false q (by omega) (by omega) (by omega) (by omega)
        refine ⟨l', s', p', Ev.step (fun _ => rfl) ?_, h'⟩
        simp only [spec_l20Regions.l0]
        rw [hw, hN]
        exact ev_neg (by omega) (ev_neg e4 h)
    · intro i hi ih l q hl hq1 hq2
      have j2 : ∀ (v q2 : Int), p1 ≤ q2 → q2 ≤ p1 + 4 * i + 1 → ∃ l' s' p', Ev (fun k => spec_l20Regions.j2 k n s l (i : Int) v b q2) (l', s', p') ∧ p ≤ p' ∧ p' ≤ p + 100 ∧ l'.length ≤ 16 ∧ 3 ≤ l'.length := by
        intro v q2 h1 h2
        obtain ⟨c, hc, _⟩ := spec_l20Rd_pick_ev b q2 6 hb (by omega) (by omega) (by omega)
        by_cases e0 : c = 0
        · obtain ⟨d, hd, _⟩ := spec_l20Rd_pick_ev b (q2 + 1) s hb (by omega) (by omega) (by omega)
          obtain ⟨l', s', p', h, h'⟩ := ih (l ++ [d]) (q2 + 1 + 1) (by simp [hl]) (by omega) (by omega)
          refine ⟨l', s', p', Ev.step (fun _ => rfl) ?_, h'⟩
          simp only [spec_l20Regions.j2]
          rw [w64s (by omega)]
          exact Ev.bind hc (ev_pos e0 (Ev.bind hd (ev_pos (by omega) h)))
        · obtain ⟨l', s', p', h, h'⟩ := ih (l ++ [v]) (q2 + 1) (by simp [hl]) (by omega) (by omega)
          refine ⟨l', s', p', Ev.step (fun _ => rfl) ?_, h'⟩
          simp only [spec_l20Regions.j2]
          rw [w64s (by omega)]
          exact Ev.bind hc (ev_neg e0 (ev_pos (by omega) h))
      have j1 : ∀ (v : Int) (t : Bool) (q2 : Int), (t = true → 0 < i) → p1 ≤ q2 → q2 ≤ p1 + 4 * i + 1 → ∃ l' s' p', Ev (fun k => spec_l20Regions.j1 k n s l (i : Int) v t b q2) (l', s', p') ∧ p ≤ p' ∧ p' ≤ p + 100 ∧ l'.length ≤ 16 ∧ 3 ≤ l'.length := by
        intro v t q2 ht h1 h2
        cases t with
        | true =>
          have ht := ht rfl
          have hw1 : wrap64 ((i : Int) - 1) = (i : Int) - 1 := w64 (by omega) (by omega)
          obtain ⟨l', s', p', h, h'⟩ := j2 (rd l ((i : Int) - 1)) q2 h1 h2
          refine ⟨l', s', p', Ev.step (fun _ => rfl) ?_, h'⟩
          simp only [spec_l20Regions.j1]
          rw [hw1]
          exact ev_pos trivial (ev_pos (by omega) (ev_pos (by omega) h))
        | false =>
          obtain ⟨l', s', p', h, h'⟩ := j2 v q2 h1 h2
          refine ⟨l', s', p', Ev.step (fun _ => rfl) ?_, h'⟩
          simp only [spec_l20Regions.j1]
          exact ev_neg (by simp) h
      by_cases hi0 : (i : Int) > 0
      · obtain ⟨c, hc, _⟩ := spec_l20Rd_pick_ev b q 4 hb (by omega) (by omega) (by omega)
        obtain ⟨l', s', p', h, h'⟩ := j1 (wrap64 (Int.tdiv (i : Int) s)) (c == 0) (q + 1) (fun _ => by omega) (by omega) (by omega)
        refine ⟨l', s', p', Ev.step (fun _ => rfl) ?_, h'⟩
        simp only [spec_l20Regions.l0]
        rw [hw, hN]
        exact ev_pos (by omega) (ev_neg (by omega) (ev_pos hi0 (Ev.bind hc h)))
      · obtain ⟨l', s', p', h, h'⟩ := j1 (wrap64 (Int.tdiv (i : Int) s)) false q (fun h => by simp at h) (by omega) (by omega)
        refine ⟨l', s', p', Ev.step (fun _ => rfl) ?_, h'⟩
        simp only [spec_l20Regions.l0]
        rw [hw, hN]
        exact ev_pos (by omega) (ev_neg (by omega) (ev_neg hi0 h))
  obtain ⟨l', s', p', h, h'⟩ := key 0 (by omega) [] p1 rfl (by omega) (by omega)
  exact ⟨l', s', p', Ev.bind hs h, h'⟩
theorem spec_DrawRegionCells_ev (l : List Int) (hw : ∀ x ∈ l, (Lit.int .u8 x).wf = true) : ∃ r s n, Ev (fun k => spec_DrawRegionCells.f k l) (r, s, n) ∧ r.length ≤ 16 ∧ 3 ≤ r.length ∧ -1 ≤ n ∧ n ≤ 4 := by
  obtain ⟨b, hb, hB⟩ := spec_l20Open_ev l hw
  obtain ⟨r, s, p, h, hp1, hp2, h1, h2⟩ := spec_l20Regions_ev b 0 9 hB (by omega) (by omega) (by omega)
  obtain ⟨c, hc, c0, c1, _⟩ := spec_l20Rd_pick_ev b p 6 hB (by omega) (by omega) (by omega)
  have c1 := c1 (by omega)
  refine ⟨r, s, c - 1, ?_, h1, h2, by omega, by omega⟩
  unfold spec_DrawRegionCells.f
  refine ev_bindc hb (Ev.bind h (Ev.bind hc (ev_now ?_)))
  rw [w64 (by omega) (by omega)]
theorem spec_DrawRegionConnected_ev (l : List Int) (hw : ∀ x ∈ l, (Lit.int .u8 x).wf = true) : ∃ r s n, Ev (fun k => spec_DrawRegionConnected.f k l) (r, s, n) ∧ r.length ≤ 16 ∧ 3 ≤ r.length ∧ -1 ≤ n ∧ n ≤ 4 := by
  obtain ⟨r, s, n, h, h'⟩ := spec_DrawRegionCells_ev l hw
  refine ⟨r, s, n, ?_, h'⟩
  unfold spec_DrawRegionConnected.f
  exact Ev.bind h (ev_now rfl)
theorem slices_Index_int_int_ev (l : List Int) (v : Int) (hl : l.length ≤ 4611686018427387904) : ∃ r, Ev (fun k => slices_Index_int_int.f k l v) r ∧ (0 ≤ r ↔ v ∈ l) := by
  have key : ∀ i, i ≤ l.length → ∃ r, Ev (fun k => slices_Index_int_int.l0 k l v (l.length : Int) (i : Int)) r ∧ (0 ≤ r ↔ v ∈ l.drop i) := by
    refine up l.length ?_ ?_
    · refine ⟨-1, Ev.step (fun _ => rfl) ?_, by simp⟩
      simp only [slices_Index_int_int.l0]
      exact ev_neg (by omega) (ev_now rfl)
    · intro i hi ih
      obtain ⟨r, hr, hr'⟩ := ih
      by_cases e : v = l[i]
      · refine ⟨(i : Int), Ev.step (fun _ => rfl) ?_, ?_⟩
        · simp only [slices_Index_int_int.l0]
          refine ev_pos (by omega) (ev_pos (by omega) (ev_pos (by omega) (ev_pos ?_ (ev_now rfl))))
          rw [rd_nat l i hi]; exact e
        · rw [drop_step l i hi]; exact ⟨fun _ => by rw [e]; exact List.mem_cons_self, fun _ => by omega⟩
      · refine ⟨r, Ev.step (fun _ => rfl) ?_, ?_⟩
        · simp only [slices_Index_int_int.l0]
          rw [rd_nat l i hi, w64s (by omega)]
          exact ev_pos (by omega) (ev_pos (by omega) (ev_pos (by omega) (ev_neg e hr)))
        · rw [drop_step l i hi, List.mem_cons, hr']
          exact ⟨fun h => .inr h, fun h => h.resolve_left e⟩
  obtain ⟨r, hr, hr'⟩ := key 0 (by omega)
  exact ⟨r, by unfold slices_Index_int_int.f; simpa using hr, by simpa using hr'⟩
theorem slices_Contains_int_int_ev (l : List Int) (v : Int) (hl : l.length ≤ 4611686018427387904) : Ev (fun k => slices_Contains_int_int.f k l v) (decide (v ∈ l)) := by
  obtain ⟨r, hr, h⟩ := slices_Index_int_int_ev l v hl
  unfold slices_Contains_int_int.f
  refine Ev.bind hr (ev_now ?_)
  rw [decide_eq_decide]; exact h
theorem impl_conn_l1 (s : Int) (cells : List Int) (hs : Mo.SizeOk s) (hc : ∀ c ∈ cells, 0 ≤ c ∧ c < 16) (hcl : cells.length ≤ 16) (i : Nat) (at_ : Int) (ha : 0 ≤ at_ ∧ at_ < 16) (F : List Int → Bool)
    (hF : ∀ r, Mo.Good cells r → Ev (fun k => impl_RegionConnected.l0 k s cells r ((i + 1 : Nat) : Int)) (F r)) (hi : i ≤ 100) :
    ∀ j, j ≤ cells.length → ∀ r, Mo.Good cells r → Ev (fun k => impl_RegionConnected.l1 k s cells r (i : Int) at_ cells (cells.length : Int) (j : Int)) (F ((cells.drop j).foldl (Mo.grow s at_) r)) := by
  have hs' := hs
  unfold Mo.SizeOk at hs'
  refine up cells.length ?_ ?_
  · intro r hr
    refine Ev.step (fun _ => rfl) ?_
    simp only [impl_RegionConnected.l1]
    rw [w64s (n := i) (by omega)]
    exact ev_neg (by omega) (by simpa using hF r hr)
  · intro j hj ih r hr
    have hcj := hc cells[j] (List.getElem_mem _)
    have hrl := hr.len
    have hin : (if cells[j] ∈ r then r else r ++ [cells[j]]) = (if cells[j] ∈ r then r else r ++ [cells[j]]) := rfl
    have part : Mo.Near s at_ cells[j] → Ev (fun k => (slices_Contains_int_int.f k r cells[j]).bind fun t => (if t = true then (impl_RegionConnected.l1 k s cells r (i : Int) at_ cells (cells.length : Int) ((j + 1 : Nat) : Int)) else (if r.length < 17592186044416 then (impl_RegionConnected.l1 k s cells (r ++ [cells[j]]) (i : Int) at_ cells (cells.length : Int) ((j + 1 : Nat) : Int)) else (none)))) (F ((cells.drop j).foldl (Mo.grow s at_) r)) := by
      intro hn
      refine Ev.bind (slices_Contains_int_int_ev r cells[j] (by omega)) ?_
      rw [drop_step cells j hj, List.foldl_cons]
      have hg := hr.grow (s := s) (a := at_) (c := cells[j]) (List.getElem_mem _)
      by_cases hm : cells[j] ∈ r
      · have e : Mo.grow s at_ r cells[j] = r := if_neg (fun h => h.2 hm)
        rw [e]
        exact ev_pos (by simpa using hm) (ih r hr)
      · have e : Mo.grow s at_ r cells[j] = r ++ [cells[j]] := if_pos ⟨hn, hm⟩
        rw [e] at hg ⊢
        exact ev_neg (by simpa using hm) (ev_pos (by omega) (ih _ hg))
    have skip : ¬ Mo.Near s at_ cells[j] → Ev (fun k => impl_RegionConnected.l1 k s cells r (i : Int) at_ cells (cells.length : Int) ((j + 1 : Nat) : Int)) (F ((cells.drop j).foldl (Mo.grow s at_) r)) := by
      intro hn
      rw [drop_step cells j hj, List.foldl_cons]
      have e : Mo.grow s at_ r cells[j] = r := if_neg (fun h => hn h.1)
      rw [e]; exact ih r hr
    have q0 : 0 ≤ Int.tdiv cells[j] s ∧ Int.tdiv cells[j] s ≤ 16 := by
      rw [Int.tdiv_eq_ediv_of_nonneg (by omega)]
      exact ⟨Int.ediv_nonneg (by omega) (by omega), Int.le_trans (Int.ediv_le_self _ (by omega)) (by omega)⟩
    have q1 : 0 ≤ Int.tdiv at_ s ∧ Int.tdiv at_ s ≤ 16 := by
      rw [Int.tdiv_eq_ediv_of_nonneg (by omega)]
      exact ⟨Int.ediv_nonneg (by omega) (by omega), Int.le_trans (Int.ediv_le_self _ (by omega)) (by omega)⟩
    refine Ev.step (fun _ => rfl) ?_
    simp only [impl_RegionConnected.l1]
    rw [rd_nat cells j hj, w64s (by omega), w64 (n := at_ + s) (by omega) (by omega), w64 (n := at_ - s) (by omega) (by omega), w64 (n := at_ + 1) (by omega) (by omega), w64 (n := at_ - 1) (by omega) (by omega), w64 (n := Int.tdiv cells[j] s) (by omega) (by omega), w64 (n := Int.tdiv at_ s) (by omega) (by omega)]
    refine ev_pos (by omega) (ev_pos (by omega) (ev_pos (by omega) ?_))
    by_cases e1 : cells[j] = at_ + s
    · exact ev_pos e1 (part (.inl (by omega)))
    · refine ev_neg e1 ?_
      by_cases e2 : cells[j] = at_ - s
      · exact ev_pos e2 (part (.inr (.inl (by omega))))
      · refine ev_neg e2 (ev_neg (by omega) ?_)
        by_cases e3 : Int.tdiv cells[j] s = Int.tdiv at_ s
        · refine ev_pos e3 ?_
          by_cases e4 : cells[j] = at_ + 1
          · exact ev_pos e4 (part (.inr (.inr ⟨by omega, e3⟩)))
          · refine ev_neg e4 ?_
            by_cases e5 : cells[j] = at_ - 1
            · exact ev_pos e5 (part (.inr (.inr ⟨by omega, e3⟩)))
            · refine ev_neg e5 (skip ?_)
              unfold Mo.Near; omega
        · refine ev_neg e3 (skip ?_)
          unfold Mo.Near
          rintro (h | h | ⟨_, h⟩)
          · omega
          · omega
          · exact e3 h
theorem impl_conn_l0 (s : Int) (cells : List Int) (hs : Mo.SizeOk s) (hc : ∀ c ∈ cells, 0 ≤ c ∧ c < 16) (hcl : cells.length ≤ 16) :
    ∀ n i : Nat, cells.length ≤ i + n → i ≤ 100 → ∀ r, Mo.Good cells r → Ev (fun k => impl_RegionConnected.l0 k s cells r (i : Int)) (decide ((Mo.bfs s cells n i r).length = cells.length)) := by
  intro n
  induction n with
  | zero =>
    intro i h1 h2 r hr
    have := hr.len
    refine Ev.step (fun _ => rfl) ?_
    simp only [impl_RegionConnected.l0]
    refine ev_neg (by omega) (ev_now ?_)
    rw [Mo.bfs, Bool.beq_eq_decide_eq, decide_eq_decide]; omega
  | succ n ih =>
    intro i h1 h2 r hr
    have := hr.len
    refine Ev.step (fun _ => rfl) ?_
    simp only [impl_RegionConnected.l0]
    by_cases h : i < r.length
    · refine ev_pos (by omega) (ev_pos (by omega) ?_)
      rw [rd_nat r i h]
      have ha := hc r[i] (hr.2 _ (List.getElem_mem _))
      have key := impl_conn_l1 s cells hs hc hcl i r[i] ha (fun r' => decide ((Mo.bfs s cells n (i + 1) r').length = cells.length)) (fun r' hr' => ih (i + 1) (by omega) (by omega) r' hr') h2 0 (by omega) r hr
      rw [Mo.bfs, dif_pos h]
      simpa using key
    · refine ev_neg (by omega) (ev_now ?_)
      rw [Mo.bfs, dif_neg h, Bool.beq_eq_decide_eq, decide_eq_decide]; omega
theorem impl_RegionConnected_ev (l : List Int) (s n : Int) (hl : l.length ≤ 4611686018427387904) :
    Ev (fun k => impl_RegionConnected.f k l s n) (Mo.conn s (if Mo.SqOk (s - 1) l s ∧ 0 ≤ n ∧ n < s then Mo.places n 0 l else [])) := by
  unfold impl_RegionConnected.f
  refine Ev.bind (impl_RegionCells_ev l s n hl) ?_
  by_cases hv : Mo.SqOk (s - 1) l s ∧ 0 ≤ n ∧ n < s
  · rw [if_pos hv]
    have h16 := hv.1.len16
    have hc : ∀ c ∈ Mo.places n 0 l, 0 ≤ c ∧ c < 16 := by
      intro c h
      obtain ⟨j, h1, h2, _⟩ := Mo.places_mem h
      omega
    have hcl := Mo.places_length n l 0
    generalize Mo.places n 0 l = cells at hc hcl
    cases cells with
    | nil => exact ev_pos rfl (ev_now rfl)
    | cons c t =>
      simp only [List.length_cons] at hcl
      refine ev_neg (by simp only [List.length_cons]; omega) (ev_pos (by simp only [List.length_cons]; omega) ?_)
      have hg : Mo.Good (c :: t) [c] := ⟨by simp, fun d hd => by simp at hd; simp [hd]⟩
      have := impl_conn_l0 s (c :: t) hv.1.1 hc (by simp; omega) (t.length + 1) 0 (by simp) (by omega) [c] hg
      simpa [Mo.conn, rd] using this
  · rw [if_neg hv]
    exact ev_pos rfl (ev_now rfl)
def Met (L : Nat) (m : List Bool) (r : List Int) : Prop := m.length = L ∧ ∀ (c : Nat), (h : c < m.length) → m[c] = decide ((c : Int) ∈ r)
theorem Met.add {L : Nat} {m : List Bool} {r : List Int} {c : Int} (h : Met L m r) (h0 : 0 ≤ c) : Met L (m.set c.toNat true) (r ++ [c]) := by
  refine ⟨by simpa using h.1, fun d hd => ?_⟩
  rw [List.getElem_set]
  split
  · rename_i e
    have : (d : Int) = c := by omega
    simp [this]
  · rename_i e
    have : ¬ (d : Int) = c := by omega
    rw [h.2 d (by simpa using hd), decide_eq_decide, List.mem_append, List.mem_singleton]
    exact ⟨fun h => .inl h, fun h => h.resolve_right this⟩
theorem Met.rd {L : Nat} {m : List Bool} {r : List Int} {c : Int} (h : Met L m r) (h0 : 0 ≤ c) (h1 : c < L) : rdOf false m c = decide (c ∈ r) := by
  obtain ⟨d, rfl⟩ := Int.eq_ofNat_of_zero_le h0
  have hd : d < m.length := by rw [h.1]; omega
  rw [rdOf_nat false m d hd]; exact h.2 d hd
theorem spec_conn_l1 (s : Int) (cells : List Int) (L : Nat) (hL : L ≤ 16) (hs : Mo.SizeOk s) (hc : ∀ c ∈ cells, 0 ≤ c ∧ c < L) (hcl : cells.length ≤ 16) (i : Nat) (at_ : Int) (ha : 0 ≤ at_ ∧ at_ < L) (F : List Int → Bool)
    (hF : ∀ m r, Mo.Good cells r → Met L m r → Ev (fun k => spec_RegionConnected.l0 k s cells m r ((i + 1 : Nat) : Int)) (F r)) (hi : i ≤ 100) :
    ∀ j, j ≤ cells.length → ∀ m r, Mo.Good cells r → Met L m r → (∃ h : i < r.length, r[i] = at_) → Ev (fun k => spec_RegionConnected.l1 k s cells m r (i : Int) (j : Int)) (F ((cells.drop j).foldl (Mo.grow s at_) r)) := by
  have hs' := hs
  unfold Mo.SizeOk at hs'
  refine up cells.length ?_ ?_
  · intro m r hr hm _
    refine Ev.step (fun _ => rfl) ?_
    simp only [spec_RegionConnected.l1]
    rw [w64s (n := i) (by omega)]
    exact ev_neg (by omega) (by simpa using hF m r hr hm)
  · intro j hj ih m r hr hm hat
    have hcj := hc cells[j] (List.getElem_mem _)
    have hrl := hr.len
    obtain ⟨hil, hie⟩ := hat
    have part : Mo.Near s at_ cells[j] → Ev (fun k => (if 0 ≤ cells[j] then (if cells[j] < (m.length : Int) then (if (rdOf false m cells[j] = true) then (spec_RegionConnected.l1 k s cells m r (i : Int) ((j + 1 : Nat) : Int)) else (if r.length < 17592186044416 then (spec_RegionConnected.l1 k s cells (m.set (cells[j] : Int).toNat true) (r ++ [cells[j]]) (i : Int) ((j + 1 : Nat) : Int)) else (none))) else (none)) else (none))) (F ((cells.drop j).foldl (Mo.grow s at_) r)) := by
      intro hn
      refine ev_pos (by omega) (ev_pos (by rw [hm.1]; omega) ?_)
      rw [hm.rd (by omega) (by omega), drop_step cells j hj, List.foldl_cons]
      have hg := hr.grow (s := s) (a := at_) (c := cells[j]) (List.getElem_mem _)
      by_cases hmm : cells[j] ∈ r
      · have e : Mo.grow s at_ r cells[j] = r := if_neg (fun h => h.2 hmm)
        rw [e]
        exact ev_pos (by simpa using hmm) (ih m r hr hm ⟨hil, hie⟩)
      · have e : Mo.grow s at_ r cells[j] = r ++ [cells[j]] := if_pos ⟨hn, hmm⟩
        rw [e] at hg ⊢
        exact ev_neg (by simpa using hmm) (ev_pos (by omega) (ih _ _ hg (hm.add (by omega)) ⟨by simp; omega, by rw [List.getElem_append_left hil]; exact hie⟩))
    have skip : ¬ Mo.Near s at_ cells[j] → Ev (fun k => spec_RegionConnected.l1 k s cells m r (i : Int) ((j + 1 : Nat) : Int)) (F ((cells.drop j).foldl (Mo.grow s at_) r)) := by
      intro hn
      rw [drop_step cells j hj, List.foldl_cons]
      have e : Mo.grow s at_ r cells[j] = r := if_neg (fun h => hn h.1)
      rw [e]; exact ih m r hr hm ⟨hil, hie⟩
    have q0 : 0 ≤ Int.tdiv cells[j] s ∧ Int.tdiv cells[j] s ≤ 16 := by
      rw [Int.tdiv_eq_ediv_of_nonneg (by omega)]
      exact ⟨Int.ediv_nonneg (by omega) (by omega), Int.le_trans (Int.ediv_le_self _ (by omega)) (by omega)⟩
    have q1 : 0 ≤ Int.tdiv at_ s ∧ Int.tdiv at_ s ≤ 16 := by
      rw [Int.tdiv_eq_ediv_of_nonneg (by omega)]
      exact ⟨Int.ediv_nonneg (by omega) (by omega), Int.le_trans (Int.ediv_le_self _ (by omega)) (by omega)⟩
    refine Ev.step (fun _ => rfl) ?_
    simp only [spec_RegionConnected.l1]
    rw [rd_nat cells j hj, rd_nat r i hil, hie, w64s (by omega), w64 (n := cells[j] - at_) (by omega) (by omega), w64 (n := -s) (by omega) (by omega), w64 (n := Int.tdiv cells[j] s) (by omega) (by omega), w64 (n := Int.tdiv at_ s) (by omega) (by omega)]
    refine ev_pos (by omega) (ev_pos (by omega) (ev_pos (by omega) (ev_pos (by omega) ?_)))
    by_cases e1 : cells[j] - at_ = s
    · exact ev_pos e1 (part (.inl e1))
    · refine ev_neg e1 ?_
      by_cases e2 : cells[j] - at_ = -s
      · exact ev_pos e2 (part (.inr (.inl e2)))
      · refine ev_neg e2 ?_
        by_cases e4 : cells[j] - at_ = 1
        · refine ev_pos e4 (ev_neg (by omega) ?_)
          by_cases e3 : Int.tdiv cells[j] s = Int.tdiv at_ s
          · exact ev_pos e3 (part (.inr (.inr ⟨.inl e4, e3⟩)))
          · refine ev_neg e3 (skip ?_)
            rintro (h | h | ⟨_, h⟩)
            · exact e1 h
            · exact e2 h
            · exact e3 h
        · refine ev_neg e4 ?_
          by_cases e5 : cells[j] - at_ = -1
          · refine ev_pos e5 (ev_neg (by omega) ?_)
            by_cases e3 : Int.tdiv cells[j] s = Int.tdiv at_ s
            · exact ev_pos e3 (part (.inr (.inr ⟨.inr e5, e3⟩)))
            · refine ev_neg e3 (skip ?_)
              rintro (h | h | ⟨_, h⟩)
              · exact e1 h
              · exact e2 h
              · exact e3 h
          · refine ev_neg e5 (skip ?_)
            rintro (h | h | ⟨h, _⟩)
            · exact e1 h
            · exact e2 h
            · exact h.elim e4 e5
theorem spec_conn_l0 (s : Int) (cells : List Int) (L : Nat) (hL : L ≤ 16) (hs : Mo.SizeOk s) (hc : ∀ c ∈ cells, 0 ≤ c ∧ c < L) (hcl : cells.length ≤ 16) :
    ∀ n i : Nat, cells.length ≤ i + n → i ≤ 100 → ∀ m r, Mo.Good cells r → Met L m r → Ev (fun k => spec_RegionConnected.l0 k s cells m r (i : Int)) (decide ((Mo.bfs s cells n i r).length = cells.length)) := by
  intro n
  induction n with
  | zero =>
    intro i h1 h2 m r hr hm
    have := hr.len
    refine Ev.step (fun _ => rfl) ?_
    simp only [spec_RegionConnected.l0]
    refine ev_neg (by omega) (ev_now ?_)
    rw [Mo.bfs, Bool.beq_eq_decide_eq, decide_eq_decide]; omega
  | succ n ih =>
    intro i h1 h2 m r hr hm
    have := hr.len
    refine Ev.step (fun _ => rfl) ?_
    simp only [spec_RegionConnected.l0]
    by_cases h : i < r.length
    · refine ev_pos (by omega) ?_
      have ha := hc r[i] (hr.2 _ (List.getElem_mem _))
      have key := spec_conn_l1 s cells L hL hs hc hcl i r[i] ha (fun r' => decide ((Mo.bfs s cells n (i + 1) r').length = cells.length)) (fun m' r' hr' hm' => ih (i + 1) (by omega) (by omega) m' r' hr' hm') h2 0 (by omega) m r hr hm ⟨h, rfl⟩
      rw [Mo.bfs, dif_pos h]
      simpa using key
    · refine ev_neg (by omega) (ev_now ?_)
      rw [Mo.bfs, dif_neg h, Bool.beq_eq_decide_eq, decide_eq_decide]; omega
theorem spec_RegionConnected_ev (l : List Int) (s n : Int) (hl : l.length ≤ 4611686018427387904) :
    Ev (fun k => spec_RegionConnected.f k l s n) (Mo.conn s (if Mo.SqOk (s - 1) l s ∧ 0 ≤ n ∧ n < s then Mo.places n 0 l else [])) := by
  unfold spec_RegionConnected.f
  refine Ev.bind (spec_RegionCells_ev l s n hl) ?_
  by_cases hv : Mo.SqOk (s - 1) l s ∧ 0 ≤ n ∧ n < s
  · rw [if_pos hv]
    have h16 := hv.1.len16
    have hc : ∀ c ∈ Mo.places n 0 l, 0 ≤ c ∧ c < l.length := by
      intro c h
      obtain ⟨j, h1, h2, _⟩ := Mo.places_mem h
      omega
    have hcl := Mo.places_length n l 0
    generalize Mo.places n 0 l = cells at hc hcl
    cases cells with
    | nil => exact ev_pos rfl (ev_now rfl)
    | cons c t =>
      simp only [List.length_cons] at hcl
      have hc0 := hc c (by simp)
      refine ev_neg (by simp only [List.length_cons]; omega) (ev_pos (by omega) (ev_pos (by omega) (ev_some ?_)))
      refine ev_pos (by simp only [List.length_cons]; omega) ?_
      have hrd : rd (c :: t) 0 = c := rfl
      rw [hrd]
      refine ev_pos hc0.1 (ev_pos (by simp; omega) ?_)
      have hg : Mo.Good (c :: t) [c] := ⟨by simp, fun d hd => by simp at hd; simp [hd]⟩
      have hm0 : Met l.length (List.replicate l.length false) [] := ⟨by simp, fun d hd => by simp⟩
      have hm : Met l.length ((List.replicate l.length false).set c.toNat true) [c] := hm0.add hc0.1
      have := spec_conn_l0 s (c :: t) l.length h16 hv.1.1 hc (by simp; omega) (t.length + 1) 0 (by simp) (by omega) _ [c] hg hm
      simpa [Mo.conn] using this
  · rw [if_neg hv]
    exact ev_pos rfl (ev_now rfl)
end XFnRegionConnected
open XFnRegionConnected
theorem FnRegionConnected : laws_FnRegionConnected.Pure := by
  intro l _ _ hw
  refine Ev.rounds (r := true) ?_
  unfold laws_FnRegionConnected.f
  by_cases hl : (l.length : Int) > 1048576
  · exact ev_pos hl (ev_now rfl)
  refine ev_neg hl ?_
  obtain ⟨g, s, n, hd, hg1, hg2, hn1, hn2⟩ := spec_DrawRegionConnected_ev l hw
  have h1 := impl_RegionConnected_ev g s n (by omega)
  have h2 := spec_RegionConnected_ev g s n (by omega)
  have h3 := impl_RegionCells_ev g s n (by omega)
  have hR : (if Mo.SqOk (s - 1) g s ∧ 0 ≤ n ∧ n < s then Mo.places n 0 g else []) = [] ∨ (Mo.SizeOk s ∧ ∀ c ∈ (if Mo.SqOk (s - 1) g s ∧ 0 ≤ n ∧ n < s then Mo.places n 0 g else []), 0 ≤ c ∧ c < 16) := by
    by_cases hv : Mo.SqOk (s - 1) g s ∧ 0 ≤ n ∧ n < s
    · refine .inr ⟨hv.1.1, ?_⟩
      rw [if_pos hv]
      intro c h
      obtain ⟨j, h1, h2, _⟩ := Mo.places_mem h
      omega
    · exact .inl (if_neg hv)
  have hRl : (if Mo.SqOk (s - 1) g s ∧ 0 ≤ n ∧ n < s then Mo.places n 0 g else []).length ≤ 16 := by
    split
    · have := Mo.places_length n g 0; omega
    · simp
  generalize (if Mo.SqOk (s - 1) g s ∧ 0 ≤ n ∧ n < s then Mo.places n 0 g else []) = R at h1 h2 h3 hR hRl
  refine Ev.bind hd (Ev.bind h1 (Ev.bind h2 (ev_neg (by simp) (Ev.bind h3 ?_))))
  by_cases hR2 : (R.length : Int) < 2
  · refine ev_pos hR2 (ev_pos ?_ (Ev.bind laws_alive_ev (ev_now rfl)))
    have hcase : R.length = 0 ∨ R.length = 1 := by omega
    rcases hcase with e | e
    · have : R = [] := List.eq_nil_of_length_eq_zero e
      subst this; rfl
    · obtain ⟨c, rfl⟩ : ∃ c, R = [c] := List.length_eq_one_iff.1 e
      have : Mo.conn s [c] = true := by simp [Mo.conn, Mo.bfs, Mo.grow]
      rw [this]; rfl
  refine ev_neg hR2 ?_
  have hR' := hR.resolve_left (fun e => by rw [e] at hR2; exact hR2 (by decide))
  obtain ⟨hs, hc⟩ := hR'
  have hs' := hs
  unfold Mo.SizeOk at hs'
  cases hcon : Mo.conn s R with
  | false =>
    refine Ev.step (fun _ => rfl) ?_
    simp only [laws_FnRegionConnected.l0]
    refine ev_pos (by omega) (Ev.step (fun _ => rfl) ?_)
    simp only [laws_FnRegionConnected.j1]
    exact ev_neg (by simp) (ev_now rfl)
  | true =>
    have hnear := Mo.conn_near hcon (by omega)
    have l0 : ∀ i, i ≤ R.length → Ev (fun k => laws_FnRegionConnected.l0 k s true R (i : Int)) true := by
      refine up R.length ?_ ?_
      · refine Ev.step (fun _ => rfl) ?_
        simp only [laws_FnRegionConnected.l0]
        refine ev_neg (by omega) (Ev.step (fun _ => rfl) ?_)
        simp only [laws_FnRegionConnected.j1]
        exact ev_neg (by simp) (ev_now rfl)
      · intro i hi ih
        have hci := hc R[i] (List.getElem_mem _)
        have l1 : ∀ j, j ≤ R.length → ∀ b : Bool, (b = true ∨ ∃ c ∈ R.drop j, Mo.Near s R[i] c) → Ev (fun k => laws_FnRegionConnected.l1 k s true R (i : Int) b (j : Int)) true := by
          refine up R.length ?_ ?_
          · intro b hb
            have hb : b = true := by
              rcases hb with hb | ⟨c, hc, _⟩
              · exact hb
              · simp at hc
            subst hb
            refine Ev.step (fun _ => rfl) ?_
            simp only [laws_FnRegionConnected.l1]
            rw [w64s (n := i) (by omega)]
            exact ev_neg (by omega) (ev_pos trivial ih)
          · intro j hj ihj b hb
            have hcj := hc R[j] (List.getElem_mem _)
            have q0 : 0 ≤ Int.tdiv R[j] s ∧ Int.tdiv R[j] s ≤ 16 := by
              rw [Int.tdiv_eq_ediv_of_nonneg (by omega)]
              exact ⟨Int.ediv_nonneg (by omega) (by omega), Int.le_trans (Int.ediv_le_self _ (by omega)) (by omega)⟩
            have q1 : 0 ≤ Int.tdiv R[i] s ∧ Int.tdiv R[i] s ≤ 16 := by
              rw [Int.tdiv_eq_ediv_of_nonneg (by omega)]
              exact ⟨Int.ediv_nonneg (by omega) (by omega), Int.le_trans (Int.ediv_le_self _ (by omega)) (by omega)⟩
            refine Ev.step (fun _ => rfl) ?_
            simp only [laws_FnRegionConnected.l1]
            rw [rd_nat R j hj, rd_nat R i hi, w64s (by omega), w64 (n := R[j] - R[i]) (by omega) (by omega), w64 (n := -s) (by omega) (by omega), w64 (n := Int.tdiv R[j] s) (by omega) (by omega), w64 (n := Int.tdiv R[i] s) (by omega) (by omega)]
            refine ev_pos (by omega) (ev_pos (by omega) (ev_pos (by omega) (ev_pos (by omega) ?_)))
            cases b with
            | true => exact ev_pos rfl (ihj true (.inl rfl))
            | false =>
              refine ev_neg (by simp) ?_
              have hb : ∃ c ∈ R.drop j, Mo.Near s R[i] c := by
                rcases hb with hb | hb
                · cases hb
                · exact hb
              rw [drop_step R j hj] at hb
              have later : ¬ Mo.Near s R[i] R[j] → ∃ c ∈ R.drop (j + 1), Mo.Near s R[i] c := by
                intro hn
                obtain ⟨c, h, h'⟩ := hb
                rcases List.mem_cons.1 h with rfl | h
                · exact absurd h' hn
                · exact ⟨c, h, h'⟩
              by_cases e1 : R[j] - R[i] = s
              · exact ev_pos e1 (ihj true (.inl rfl))
              · refine ev_neg e1 ?_
                by_cases e2 : R[j] - R[i] = -s
                · exact ev_pos e2 (ihj true (.inl rfl))
                · refine ev_neg e2 ?_
                  have both : (R[j] - R[i] = 1 ∨ R[j] - R[i] = -1) → Ev (fun k => laws_FnRegionConnected.l1 k s true R (i : Int) (Int.tdiv R[j] s == Int.tdiv R[i] s) ((j + 1 : Nat) : Int)) true := by
                    intro h1
                    refine ihj _ ?_
                    by_cases e3 : Int.tdiv R[j] s = Int.tdiv R[i] s
                    · exact .inl (by simpa using e3)
                    · refine .inr (later ?_)
                      rintro (h | h | ⟨_, h⟩)
                      · exact e1 h
                      · exact e2 h
                      · exact e3 h
                  by_cases e4 : R[j] - R[i] = 1
                  · exact ev_pos e4 (ev_neg (by omega) (both (.inl e4)))
                  · refine ev_neg e4 ?_
                    by_cases e5 : R[j] - R[i] = -1
                    · exact ev_pos e5 (ev_neg (by omega) (both (.inr e5)))
                    · refine ev_neg e5 (ihj false (.inr (later ?_)))
                      rintro (h | h | ⟨h, _⟩)
                      · exact e1 h
                      · exact e2 h
                      · exact h.elim e4 e5
        refine Ev.step (fun _ => rfl) ?_
        simp only [laws_FnRegionConnected.l0]
        refine ev_pos (by omega) (Ev.step (fun _ => rfl) ?_)
        simp only [laws_FnRegionConnected.j1]
        obtain ⟨c, hc1, hc2⟩ := hnear R[i] (List.getElem_mem _)
        exact ev_pos trivial (by simpa using l1 0 (by omega) false (.inr ⟨c, by simpa using hc1, hc2⟩))
    simpa using l0 0 (by omega)

end Go.Proofs.Ytdinbpfklikghaa.Pure
