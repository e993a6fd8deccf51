/- RegionRules: the rules are valid and hold for a solved grid exactly if no region has a value twice, at every drawn list. No conditions. -/
import Derived.Test.YtdinbpfklikghaaPFnRegionRulesx8
import Derived.Test.YtdinbpfklikghaaMo
set_option linter.unusedSimpArgs false
set_option linter.unusedVariables false
set_option maxRecDepth 4000
namespace Go.Proofs.Ytdinbpfklikghaa.Pure
open Go.RowKit Go.Proofs.Ytdinbpfklikghaa.PFnRegionRules Go.Proofs.Ytdinbpfklikghaa.Pk Go.Proofs.Ytdinbpfklikghaa.Mo Go.Proofs.YtdinbpfklikghaaW.PrintWords Go.Proofs.YtdinbpfklikghaaW.PrintLast

namespace XFnRegionRules
theorem laws_sameInts_ev (a b : List Int) (ha : a.length ≤ 4611686018427387904) : Ev (fun k => laws_sameInts.f k a b) (decide (a = b)) := by
  have key : b.length = a.length → ∀ i, i ≤ a.length → Ev (fun k => laws_sameInts.l0 k a b (i : Int)) (decide (a.drop i = b.drop i)) := by
    intro hl
    refine up a.length ?_ ?_
    · refine Ev.step (fun _ => rfl) ?_
      simp only [laws_sameInts.l0]
      refine ev_neg (by omega) (ev_now ?_)
      rw [List.drop_length, ← hl, List.drop_length]; simp
    · intro i hi ih
      refine Ev.step (fun _ => rfl) ?_
      simp only [laws_sameInts.l0]
      refine ev_pos (by omega) (ev_pos (by omega) (ev_pos (by omega) ?_))
      rw [rd_nat a i hi, rd_nat b i (by omega), w64s (by omega), drop_step a i hi, drop_step b i (by omega)]
      by_cases e : a[i] = b[i]
      · refine ev_pos e (ev_of_eq ih ?_); rw [decide_eq_decide, List.cons.injEq]; exact ⟨fun h => ⟨e, h⟩, fun h => h.2⟩
      · refine ev_neg e (ev_now ?_); symm; rw [decide_eq_false_iff_not, List.cons.injEq]; exact fun h => e h.1
  unfold laws_sameInts.f
  by_cases hl : b.length = a.length
  · exact ev_pos (by omega) (by simpa using key hl 0 (by omega))
  · refine ev_neg (by omega) (ev_now ?_)
    have : a ≠ b := fun e => hl (by rw [e])
    simp [this]
theorem impl_sizeOk_eq (s : Int) : impl_sizeOk.f s = some (decide (Mo.SizeOk s)) := by
  unfold impl_sizeOk.f Mo.SizeOk
  by_cases h : s ≥ 2
  · rw [if_pos h]; simp [show (2 : Int) ≤ s from h]
  · rw [if_neg h]; simp [show ¬ (2 : Int) ≤ s from h]
theorem spec_l1In_eq (n lo hi : Int) : spec_l1In.f n lo hi = some (decide (lo ≤ n ∧ n ≤ hi)) := by
  unfold spec_l1In.f
  by_cases h : n ≥ lo
  · rw [if_pos h]; simp [show lo ≤ n from h]
  · rw [if_neg h]; simp [show ¬ lo ≤ n from h]
theorem impl_RegionsValid_ev (l : List Int) (s : Int) (hl : l.length ≤ 4611686018427387904) : Ev (fun k => impl_RegionsValid.f k l s) (decide (Mo.SqOk (s - 1) l s)) := by
  have key : ∀ i, i ≤ l.length → Ev (fun k => impl_RegionsValid.l0 k s l (l.length : Int) (i : Int)) (decide (Mo.AllIn 0 (s - 1) (l.drop i))) := by
    refine up l.length ?_ ?_
    · refine Ev.step (fun _ => rfl) ?_
      simp only [impl_RegionsValid.l0]
      refine ev_neg (by omega) (ev_now ?_)
      simp [Mo.AllIn.nil]
    · intro i hi ih
      refine Ev.step (fun _ => rfl) ?_
      simp only [impl_RegionsValid.l0]
      refine ev_pos (by omega) (ev_pos (by omega) (ev_pos (by omega) ?_))
      rw [rd_nat l i hi, w64s (by omega), drop_step l i hi]
      by_cases e : l[i] < 0
      · refine ev_pos e (ev_now ?_)
        symm; rw [decide_eq_false_iff_not, Mo.AllIn.cons]; omega
      · refine ev_neg e ?_
        by_cases e' : l[i] ≥ s
        · refine ev_pos e' (ev_now ?_)
          symm; rw [decide_eq_false_iff_not, Mo.AllIn.cons]; omega
        · refine ev_neg e' (ev_of_eq ih ?_)
          rw [decide_eq_decide, Mo.AllIn.cons]
          exact ⟨fun h => ⟨by omega, h⟩, fun h => h.2⟩
  unfold impl_RegionsValid.f
  refine ev_bindc (impl_sizeOk_eq s) ?_
  by_cases hs : Mo.SizeOk s
  · have hs' := hs
    unfold Mo.SizeOk at hs'
    refine ev_pos (by simpa using hs) (Ev.step (fun _ => rfl) ?_)
    simp only [impl_RegionsValid.j0]
    have hw : wrap64 (s * s) = s * s := by rcases hs.cases with rfl | rfl | rfl <;> exact w64 (by decide) (by decide)
    rw [hw]
    by_cases hn : (l.length : Int) = s * s
    · refine ev_neg (by simp [hn]) (ev_of_eq (key 0 (by omega)) ?_)
      rw [decide_eq_decide]
      exact ⟨fun h => ⟨hs, hn, by simpa using h⟩, fun h => by simpa using h.2.2⟩
    · refine ev_pos (by simp [hn]) (ev_now ?_)
      symm; rw [decide_eq_false_iff_not]; exact fun h => hn h.2.1
  · refine ev_neg (by simpa using hs) (Ev.step (fun _ => rfl) ?_)
    simp only [impl_RegionsValid.j0]
    refine ev_pos trivial (ev_now ?_)
    symm; rw [decide_eq_false_iff_not]; exact fun h => hs h.1
theorem spec_RegionsValid_ev (l : List Int) (s : Int) (hl : l.length ≤ 4611686018427387904) : Ev (fun k => spec_RegionsValid.f k l s) (decide (Mo.SqOk (s - 1) l s)) := by
  by_cases hs : Mo.SizeOk s
  · have hs' := hs
    unfold Mo.SizeOk at hs'
    have hw : wrap64 (s * s) = s * s := by rcases hs.cases with rfl | rfl | rfl <;> exact w64 (by decide) (by decide)
    have hw1 : wrap64 (s - 1) = s - 1 := w64 (by omega) (by omega)
    have key : ∀ i, i ≤ l.length → Ev (fun k => spec_RegionsValid.l0 k l s (i : Int)) (decide ((l.length : Int) = s * s ∧ Mo.AllIn 0 (s - 1) (l.drop i))) := by
      refine up l.length ?_ ?_
      · refine Ev.step (fun _ => rfl) ?_
        simp only [spec_RegionsValid.l0]
        refine ev_neg (by omega) (ev_bindc (spec_l1In_eq _ _ _) (ev_pos (by simpa using hs') (ev_now ?_)))
        simp [Mo.AllIn.nil, hw]
        exact (Bool.beq_eq_decide_eq _ _)
      · intro i hi ih
        refine Ev.step (fun _ => rfl) ?_
        simp only [spec_RegionsValid.l0]
        refine ev_pos (by omega) (ev_pos (by omega) (ev_bindc (spec_l1In_eq _ _ _) ?_))
        rw [rd_nat l i hi, w64s (by omega), drop_step l i hi, hw1]
        by_cases e : 0 ≤ l[i] ∧ l[i] ≤ s - 1
        · refine ev_pos (by simpa using e) (ev_of_eq ih ?_)
          rw [decide_eq_decide, Mo.AllIn.cons]
          exact ⟨fun h => ⟨h.1, e, h.2⟩, fun h => ⟨h.1, h.2.2⟩⟩
        · refine ev_neg (by simpa using e) (ev_now ?_)
          symm; rw [decide_eq_false_iff_not, Mo.AllIn.cons]; exact fun h => e h.2.1
    unfold spec_RegionsValid.f
    refine ev_of_eq (key 0 (by omega)) ?_
    rw [decide_eq_decide]
    exact ⟨fun h => ⟨hs, by simpa using h⟩, fun h => by simpa using h.2⟩
  · have key : ∀ i, i ≤ l.length → Ev (fun k => spec_RegionsValid.l0 k l s (i : Int)) false := by
      refine up l.length ?_ ?_
      · refine Ev.step (fun _ => rfl) ?_
        simp only [spec_RegionsValid.l0]
        exact ev_neg (by omega) (ev_bindc (spec_l1In_eq _ _ _) (ev_neg (by simpa [Mo.SizeOk] using hs) (ev_now rfl)))
      · intro i hi ih
        refine Ev.step (fun _ => rfl) ?_
        simp only [spec_RegionsValid.l0]
        refine ev_pos (by omega) (ev_pos (by omega) (ev_bindc (spec_l1In_eq _ _ _) ?_))
        rw [w64s (by omega)]
        by_cases e : decide (0 ≤ rd l (i : Int) ∧ rd l (i : Int) ≤ wrap64 (s - 1)) = true
        · exact ev_pos e ih
        · exact ev_neg e (ev_now rfl)
    unfold spec_RegionsValid.f
    refine ev_of_eq (key 0 (by omega)) ?_
    symm; rw [decide_eq_false_iff_not]; exact fun h => hs h.1
theorem impl_RegionCells_ev (l : List Int) (s r : Int) (hl : l.length ≤ 4611686018427387904) : Ev (fun k => impl_RegionCells.f k l s r) (if Mo.SqOk (s - 1) l s ∧ 0 ≤ r ∧ r < s then Mo.places r 0 l else []) := by
  unfold impl_RegionCells.f
  refine Ev.bind (impl_RegionsValid_ev l s hl) ?_
  by_cases hv : Mo.SqOk (s - 1) l s
  · have h16 := hv.len16
    have key : ∀ i, i ≤ l.length → ∀ acc : List Int, acc.length ≤ i → Ev (fun k => impl_RegionCells.l0 k r acc l (l.length : Int) (i : Int)) (acc ++ Mo.places r i (l.drop i)) := by
      refine up l.length ?_ ?_
      · intro acc ha
        refine Ev.step (fun _ => rfl) ?_
        simp only [impl_RegionCells.l0]
        refine ev_neg (by omega) (ev_now ?_)
        simp [Mo.places]
      · intro i hi ih acc ha
        refine Ev.step (fun _ => rfl) ?_
        simp only [impl_RegionCells.l0]
        refine ev_pos (by omega) (ev_pos (by omega) (ev_pos (by omega) ?_))
        rw [rd_nat l i hi, w64s (by omega), drop_step l i hi]
        by_cases e : l[i] = r
        · refine ev_pos e (ev_pos (by omega) (ev_of_eq (ih (acc ++ [(i : Int)]) (by simp; omega)) ?_))
          simp [Mo.places, e]
        · refine ev_neg e (ev_of_eq (ih acc (by omega)) ?_)
          simp [Mo.places, e]
    refine ev_pos (by simpa using hv) ?_
    by_cases h0 : r < 0
    · refine ev_pos h0 (Ev.step (fun _ => rfl) ?_)
      simp only [impl_RegionCells.j0]
      refine ev_pos trivial (ev_now ?_)
      rw [if_neg (by omega)]
    · refine ev_neg h0 (Ev.step (fun _ => rfl) ?_)
      simp only [impl_RegionCells.j0]
      by_cases h1 : r < s
      · refine ev_neg (by simp; omega) (ev_of_eq (key 0 (by omega) [] (by simp)) ?_)
        rw [if_pos ⟨hv, by omega, h1⟩]; simp
      · refine ev_pos (by simp; omega) (ev_now ?_)
        rw [if_neg (by omega)]
  · refine ev_neg (by simpa using hv) (Ev.step (fun _ => rfl) ?_)
    simp only [impl_RegionCells.j0]
    refine ev_pos trivial (ev_now ?_)
    rw [if_neg (fun h => hv h.1)]
theorem spec_RegionCells_ev (l : List Int) (s r : Int) (hl : l.length ≤ 4611686018427387904) : Ev (fun k => spec_RegionCells.f k l s r) (if Mo.SqOk (s - 1) l s ∧ 0 ≤ r ∧ r < s then Mo.places r 0 l else []) := by
  by_cases hv : Mo.SqOk (s - 1) l s
  · have h16 := hv.len16
    have key : ∀ i, i ≤ l.length → ∀ acc : List Int, acc.length ≤ i → Ev (fun k => spec_RegionCells.l0 k l s r acc (i : Int)) (acc ++ Mo.places r i (l.drop i)) := by
      refine up l.length ?_ ?_
      · intro acc ha
        refine Ev.step (fun _ => rfl) ?_
        simp only [spec_RegionCells.l0]
        refine ev_neg (by omega) (Ev.step (fun _ => rfl) ?_)
        simp only [spec_RegionCells.j1]
        refine ev_neg (by simp) (ev_now ?_)
        simp [Mo.places]
      · intro i hi ih acc ha
        refine Ev.step (fun _ => rfl) ?_
        simp only [spec_RegionCells.l0]
        refine ev_pos (by omega) (Ev.bind (spec_RegionsValid_ev l s hl) (Ev.step (fun _ => rfl) ?_))
        simp only [spec_RegionCells.j1]
        refine ev_pos (by simpa using hv) (ev_pos (by omega) (ev_pos (by omega) ?_))
        rw [rd_nat l i hi, w64s (by omega), drop_step l i hi]
        by_cases e : l[i] = r
        · refine ev_pos e (ev_pos (by omega) (ev_of_eq (ih (acc ++ [(i : Int)]) (by simp; omega)) ?_))
          simp [Mo.places, e]
        · refine ev_neg e (ev_of_eq (ih acc (by omega)) ?_)
          simp [Mo.places, e]
    unfold spec_RegionCells.f
    refine ev_of_eq (key 0 (by omega) [] (by simp)) ?_
    by_cases h1 : 0 ≤ r ∧ r < s
    · rw [if_pos ⟨hv, h1⟩]; simp
    · rw [if_neg (fun h => h1 h.2)]
      rw [Mo.places_none]; simp
      intro x hx e
      have := hv.2.2 x (by simpa using hx)
      omega
  · rw [if_neg (fun h => hv h.1)]
    unfold spec_RegionCells.f
    refine Ev.step (fun _ => rfl) ?_
    simp only [spec_RegionCells.l0]
    by_cases h0 : (0 : Int) < l.length
    · refine ev_pos h0 (Ev.bind (spec_RegionsValid_ev l s hl) (Ev.step (fun _ => rfl) ?_))
      simp only [spec_RegionCells.j1]
      exact ev_neg (by simpa using hv) (ev_now rfl)
    · refine ev_neg h0 (Ev.step (fun _ => rfl) ?_)
      simp only [spec_RegionCells.j1]
      exact ev_neg (by simp) (ev_now rfl)
theorem laws_alive_ev : Ev (fun k => laws_alive.f k) true := Ev.of laws_alive.mono (k := 12) (by decide +kernel)
theorem spec_BoxRegions_ev : Ev (fun k => spec_BoxRegions.f k) Mo.boxes := Ev.of spec_BoxRegions.mono (k := 20) (by decide +kernel)
/-- A code, as the reader of draws takes it. -/
def Bytes (b : List Int) : Prop := b.length ≤ 2000 ∧ ∀ x ∈ b, 0 ≤ x ∧ x ≤ 255
theorem spec_l20Open_ev (l : List Int) (hw : ∀ x ∈ l, (Lit.int .u8 x).wf = true) : ∃ b, spec_l20Open.f l = some (b, 0) ∧ Bytes b := by
  unfold spec_l20Open.f
  by_cases h : (l.length : Int) > 2000
  · refine ⟨l.take 2000, ?_, ?_, fun x hx => wf_u8.1 (hw x (List.mem_of_mem_take hx))⟩
    · rw [if_pos h, if_pos (by omega)]
    · simp; omega
  · exact ⟨l, by rw [if_neg h], by omega, fun x hx => wf_u8.1 (hw x hx)⟩
theorem spec_l20Rd_pick_ev (b : List Int) (p n : Int) (hb : Bytes b) (h0 : 0 ≤ p) (hp : p ≤ 1000000000) (hn : n ≤ 1000000000) :
    ∃ r, Ev (fun k => spec_l20Rd_pick.f k b p n) (r, p + 1) ∧ 0 ≤ r ∧ (1 ≤ n → r < n) ∧ (n < 1 → r = 0) := by
  unfold spec_l20Rd_pick.f
  rw [w64 (n := p + 1) (by omega) (by omega)]
  by_cases hn1 : n < 1
  · refine ⟨0, ev_pos hn1 (Ev.step (fun _ => rfl) ?_), by omega, by omega, fun _ => rfl⟩
    simp only [spec_l20Rd_pick.j0]
    exact ev_pos trivial (ev_now rfl)
  · by_cases hl : b.length = 0
    · refine ⟨0, ev_neg hn1 (Ev.step (fun _ => rfl) ?_), by omega, by omega, by omega⟩
      simp only [spec_l20Rd_pick.j0]
      exact ev_pos (by simp [hl]) (ev_now rfl)
    · have hmem : ∀ i : Int, 0 ≤ i → i < b.length → 0 ≤ rd b i ∧ rd b i ≤ 255 := fun i h h' => hb.2 _ (rd_mem b i h h')
      have hne : ¬ (((b.length : Int) == 0) = true) := fun h => hl (by have := eq_of_beq h; omega)
      have hp1 : wrap64 (p + 1 - 1) = p := by rw [w64 (by omega) (by omega)]; omega
      by_cases hk : p < b.length
      · have hr := hmem p h0 hk
        refine ⟨Int.tmod (wrap64 (rd b p)) n, ev_neg hn1 (Ev.step (fun _ => rfl) ?_), ?_, ?_, by omega⟩
        · simp only [spec_l20Rd_pick.j0]
          rw [hp1]
          exact ev_neg hne (ev_pos hk (ev_pos h0 (ev_neg (by omega) (ev_now rfl))))
        · rw [w64 (by omega) (by omega), Int.tmod_eq_emod_of_nonneg (by omega)]; exact Int.emod_nonneg _ (by omega)
        · intro _; rw [w64 (by omega) (by omega), Int.tmod_eq_emod_of_nonneg (by omega)]; exact Int.emod_lt_of_pos _ (by omega)
      · have hL : (0 : Int) < b.length := by omega
        have e7 : wrap64 (wrap64 (p * 7) + 3) = p * 7 + 3 := by rw [w64 (n := p * 7) (by omega) (by omega), w64 (by omega) (by omega)]
        have m1 : Int.tmod p b.length = p % b.length := Int.tmod_eq_emod_of_nonneg h0
        have m2 : Int.tmod (p * 7 + 3) b.length = (p * 7 + 3) % b.length := Int.tmod_eq_emod_of_nonneg (by omega)
        have a1 := Int.emod_nonneg p (b := (b.length : Int)) (by omega)
        have a2 := Int.emod_lt_of_pos p hL
        have b1 := Int.emod_nonneg (p * 7 + 3) (b := (b.length : Int)) (by omega)
        have b2 := Int.emod_lt_of_pos (p * 7 + 3) hL
        have r1 := hmem _ a1 a2
        have r2 := hmem _ b1 b2
        have d0 : 0 ≤ Int.tdiv p b.length := by rw [Int.tdiv_eq_ediv_of_nonneg h0]; exact Int.ediv_nonneg h0 (by omega)
        have d1 : Int.tdiv p b.length ≤ p := by rw [Int.tdiv_eq_ediv_of_nonneg h0]; exact Int.ediv_le_self _ h0
        generalize hx : wrap64 (wrap64 (wrap64 (wrap64 (wrap64 (rd b (p % b.length)) * 131) + wrap64 (wrap64 (rd b ((p * 7 + 3) % b.length)) * 1117)) + wrap64 (p * 29)) + wrap64 (wrap64 (Int.tdiv p b.length) * 53)) = x
        have hx0 : 0 ≤ x ∧ x ≤ 100000000000 := by
          rw [← hx]
          rw [w64 (n := rd b (p % b.length)) (by omega) (by omega), w64 (n := rd b ((p * 7 + 3) % b.length)) (by omega) (by omega), w64 (n := Int.tdiv p b.length) (by omega) (by omega)]
          rw [w64 (n := rd b (p % b.length) * 131) (by omega) (by omega), w64 (n := rd b ((p * 7 + 3) % b.length) * 1117) (by omega) (by omega), w64 (n := p * 29) (by omega) (by omega), w64 (n := Int.tdiv p b.length * 53) (by omega) (by omega)]
          rw [w64 (n := rd b (p % b.length) * 131 + rd b ((p * 7 + 3) % b.length) * 1117) (by omega) (by omega)]
          rw [w64 (n := rd b (p % b.length) * 131 + rd b ((p * 7 + 3) % b.length) * 1117 + p * 29) (by omega) (by omega)]
          rw [w64 (by omega) (by omega)]
          omega
        have hq : wrap64 (Int.tdiv x 64) = x / 64 := by rw [Int.tdiv_eq_ediv_of_nonneg hx0.1, w64 (by omega) (by omega)]
        have hz : 0 ≤ Go.bits .xor .i64 x (x / 64) := xor_nonneg _ _ (by omega) (by omega) (by omega) (by omega)
        refine ⟨Int.tmod (Go.bits .xor .i64 x (x / 64)) n, ev_neg hn1 (Ev.step (fun _ => rfl) ?_), ?_, ?_, by omega⟩
        · simp only [spec_l20Rd_pick.j0]
          rw [hp1, e7, m1, m2, hx, hq]
          exact ev_neg hne (ev_neg hk (ev_neg (by omega) (ev_pos a1 (ev_pos a2 (ev_pos b1 (ev_pos b2 (ev_neg (by omega) (ev_now rfl))))))))
        · rw [Int.tmod_eq_emod_of_nonneg hz]; exact Int.emod_nonneg _ (by omega)
        · intro _; rw [Int.tmod_eq_emod_of_nonneg hz]; exact Int.emod_lt_of_pos _ (by omega)
theorem spec_l20Rd_odd_ev (b : List Int) (p n : Int) (hb : Bytes b) (h0 : 0 ≤ p) (hp : p ≤ 1000000000) (hn : n ≤ 1000000000) :
    ∃ r p', Ev (fun k => spec_l20Rd_odd.f k b p n) (r, p') ∧ p ≤ p' ∧ p' ≤ p + 1 ∧ (n ≤ 0 → r = false ∧ p' = p) := by
  unfold spec_l20Rd_odd.f
  by_cases h : n > 0
  · obtain ⟨r, hr, _⟩ := spec_l20Rd_pick_ev b p n hb h0 hp hn
    exact ⟨_, _, ev_pos h (Ev.bind hr (ev_now rfl)), by omega, by omega, by omega⟩
  · exact ⟨_, _, ev_neg h (ev_now rfl), by omega, by omega, fun _ => ⟨rfl, rfl⟩⟩
theorem spec_l20Size_ev (b : List Int) (p n : Int) (hb : Bytes b) (h0 : 0 ≤ p) (hp : p ≤ 900000000) (hn : n ≤ 1000000000) :
    ∃ s p', Ev (fun k => spec_l20Size.f k b p n) (s, p') ∧ p ≤ p' ∧ p' ≤ p + 2 ∧ (-1 ≤ s ∧ s ≤ 5) ∧ (n ≤ 0 → Mo.SizeOk s) := by
  unfold spec_l20Size.f
  obtain ⟨r, p1, hr, h1, h2, h3⟩ := spec_l20Rd_odd_ev b p n hb h0 (by omega) hn
  cases r with
  | true =>
    obtain ⟨q, hq, q0, q1, _⟩ := spec_l20Rd_pick_ev b p1 3 hb (by omega) (by omega) (by omega)
    have q1 := q1 (by omega)
    have hc : q = 0 ∨ q = 1 ∨ q = 2 := by omega
    refine ⟨rd [1, 5, -1] q, p1 + 1, Ev.bind hr (ev_pos rfl (ev_some (Ev.bind hq (ev_pos q0 (ev_pos (by simpa using q1) (ev_now rfl)))))), by omega, by omega, ?_, fun h => ?_⟩
    · rcases hc with rfl | rfl | rfl <;> decide
    · exact absurd (h3 h).1 (by simp)
  | false =>
    obtain ⟨q, hq, q0, q1, _⟩ := spec_l20Rd_pick_ev b p1 5 hb (by omega) (by omega) (by omega)
    have q1 := q1 (by omega)
    have hc : q = 0 ∨ q = 1 ∨ q = 2 ∨ q = 3 ∨ q = 4 := by omega
    refine ⟨rd [2, 3, 3, 4, 4] q, p1 + 1, Ev.bind hr (ev_neg (by simp) (ev_some (Ev.bind hq (ev_pos q0 (ev_pos (by simpa using q1) (ev_now rfl)))))), by omega, by omega, ?_, fun h => ?_⟩
    · rcases hc with rfl | rfl | rfl | rfl | rfl <;> decide
    · rcases hc with rfl | rfl | rfl | rfl | rfl <;> decide
theorem spec_l20Regions_ev (b : List Int) (p n : Int) (hb : Bytes b) (h0 : 0 ≤ p) (hp : p ≤ 800000000) (hn : n ≤ 1000000000) :
    ∃ l s p', Ev (fun k => spec_l20Regions.f k b p n) (l, s, p') ∧ p ≤ p' ∧ p' ≤ p + 100 ∧ l.length ≤ 16 ∧ 3 ≤ l.length := by
  unfold spec_l20Regions.f
  obtain ⟨s, p1, hs, hp1, hp2, _, hsz⟩ := spec_l20Size_ev b p 0 hb h0 (by omega) (by omega)
  have hsz := hsz (by omega)
  have hsz' := hsz
  unfold Mo.SizeOk at hsz'
  have hw : wrap64 (s * s) = s * s := by rcases hsz.cases with rfl | rfl | rfl <;> exact w64 (by decide) (by decide)
  obtain ⟨N, hN⟩ : ∃ N : Nat, s * s = N := ⟨(s * s).toNat, by rcases hsz.cases with rfl | rfl | rfl <;> rfl⟩
  have hN4 : 4 ≤ N ∧ N ≤ 16 := by rcases hsz.cases with rfl | rfl | rfl <;> omega
  -- behind the list
  have j4 : ∀ (l : List Int) (q : Int), l.length ≤ 16 → 4 ≤ l.length → p1 ≤ q → q ≤ p1 + 80 →
      ∃ l' s' p', Ev (fun k => spec_l20Regions.j4 k n s l b q) (l', s', p') ∧ p ≤ p' ∧ p' ≤ p + 100 ∧ l'.length ≤ 16 ∧ 3 ≤ l'.length := by
    intro l q hl1 hl2 hq1 hq2
    obtain ⟨o, p2, ho, ho1, ho2, _⟩ := spec_l20Rd_odd_ev b q n hb (by omega) (by omega) hn
    cases o with
    | false =>
      refine ⟨l, s, p2, Ev.step (fun _ => rfl) ?_, by omega, by omega, hl1, by omega⟩
      simp only [spec_l20Regions.j4]
      exact Ev.bind ho (ev_neg (by simp) (ev_now rfl))
    | true =>
      obtain ⟨c, hc, c0, c1, _⟩ := spec_l20Rd_pick_ev b p2 3 hb (by omega) (by omega) (by omega)
      have c1 := c1 (by omega)
      by_cases e0 : c = 0
      · obtain ⟨i, hi, i0, i1, _⟩ := spec_l20Rd_pick_ev b (p2 + 1) (l.length : Int) hb (by omega) (by omega) (by omega)
        have i1 := i1 (by omega)
        obtain ⟨d, hd, d0, d1, _⟩ := spec_l20Rd_pick_ev b (p2 + 1 + 1) 2 hb (by omega) (by omega) (by omega)
        have d1 := d1 (by omega)
        refine ⟨l.set i.toNat (rd [-1, s] d), s, p2 + 1 + 1 + 1, Ev.step (fun _ => rfl) ?_, by omega, by omega, by simpa using hl1, by simp; omega⟩
        simp only [spec_l20Regions.j4]
        exact Ev.bind ho (ev_pos rfl (Ev.bind hc (ev_pos e0 (Ev.bind hi (ev_some (Ev.bind hd (ev_pos d0 (ev_pos (by simpa using d1) (ev_pos i0 (ev_pos i1 (ev_now rfl)))))))))))
      · by_cases e1 : c = 1
        · refine ⟨l.drop 1, s, p2 + 1, Ev.step (fun _ => rfl) ?_, by omega, by omega, by simp; omega, by simp; omega⟩
          simp only [spec_l20Regions.j4]
          exact Ev.bind ho (ev_pos rfl (Ev.bind hc (ev_neg e0 (ev_pos e1 (ev_pos (by omega) (ev_now rfl))))))
        · obtain ⟨s2, p3, hs2, hp3, hp4, _⟩ := spec_l20Size_ev b (p2 + 1) 1 hb (by omega) (by omega) (by omega)
          refine ⟨l, s2, p3, Ev.step (fun _ => rfl) ?_, by omega, by omega, hl1, by omega⟩
          simp only [spec_l20Regions.j4]
          exact Ev.bind ho (ev_pos rfl (Ev.bind hc (ev_neg e0 (ev_neg e1 (Ev.bind hs2 (ev_now rfl))))))
  have j3 : ∀ (l : List Int) (t : Bool) (q : Int), l.length ≤ 16 → 4 ≤ l.length → p1 ≤ q → q ≤ p1 + 80 →
      ∃ l' s' p', Ev (fun k => spec_l20Regions.j3 k n s l t b q) (l', s', p') ∧ p ≤ p' ∧ p' ≤ p + 100 ∧ l'.length ≤ 16 ∧ 3 ≤ l'.length := by
    intro l t q hl1 hl2 hq1 hq2
    cases t with
    | true =>
      obtain ⟨l', s', p', h, h'⟩ := j4 Mo.boxes q (by decide) (by decide) hq1 hq2
      refine ⟨l', s', p', Ev.step (fun _ => rfl) ?_, h'⟩
      simp only [spec_l20Regions.j3]
      exact ev_pos trivial (Ev.bind spec_BoxRegions_ev h)
    | false =>
      obtain ⟨l', s', p', h, h'⟩ := j4 l q hl1 hl2 hq1 hq2
      refine ⟨l', s', p', Ev.step (fun _ => rfl) ?_, h'⟩
      simp only [spec_l20Regions.j3]
      exact ev_neg (by simp) h
  have key : ∀ i, i ≤ N → ∀ (l : List Int) (q : Int), l.length = i → p1 ≤ q → q ≤ p1 + 4 * i →
      ∃ l' s' p', Ev (fun k => spec_l20Regions.l0 k n s l (i : Int) b q) (l', s', p') ∧ p ≤ p' ∧ p' ≤ p + 100 ∧ l'.length ≤ 16 ∧ 3 ≤ l'.length := by
    refine up N ?_ ?_
    · intro l q hl hq1 hq2
      by_cases e4 : s = 4
      · obtain ⟨c, hc, c0, c1, _⟩ := spec_l20Rd_pick_ev b q 3 hb (by omega) (by omega) (by omega)
        obtain ⟨l', s', p', h, h'⟩ := j3 l (c == 0) (q + 1) (by omega) (by omega) (by omega) (by omega)
        refine ⟨l', s', p', Ev.step (fun _ => rfl) ?_, h'⟩
        simp only [spec_l20Regions.l0]
        rw [hw, hN]
        exact ev_neg (by omega) (ev_pos e4 (Ev.bind hc h))
      · obtain ⟨l', s', p', h, h'⟩ := j3 l false q (by omega) (by omega) (by omega) (by omega)
        refine ⟨l', s', p', Ev.step (fun _ => rfl) ?_, h'⟩
        simp only [spec_l20Regions.l0]
        rw [hw, hN]
        exact ev_neg (by omega) (ev_neg e4 h)
    · intro i hi ih l q hl hq1 hq2
      have j2 : ∀ (v q2 : Int), p1 ≤ q2 → q2 ≤ p1 + 4 * i + 1 → ∃ l' s' p', Ev (fun k => spec_l20Regions.j2 k n s l (i : Int) v b q2) (l', s', p') ∧ p ≤ p' ∧ p' ≤ p + 100 ∧ l'.length ≤ 16 ∧ 3 ≤ l'.length := by
        intro v q2 h1 h2
        obtain ⟨c, hc, _⟩ := spec_l20Rd_pick_ev b q2 6 hb (by omega) (by omega) (by omega)
        by_cases e0 : c = 0
        · obtain ⟨d, hd, _⟩ := spec_l20Rd_pick_ev b (q2 + 1) s hb (by omega) (by omega) (by omega)
          obtain ⟨l', s', p', h, h'⟩ := ih (l ++ [d]) (q2 + 1 + 1) (by simp [hl]) (by omega) (by omega)
          refine ⟨l', s', p', Ev.step (fun _ => rfl) ?_, h'⟩
          simp only [spec_l20Regions.j2]
          rw [w64s (by omega)]
          exact Ev.bind hc (ev_pos e0 (Ev.bind hd (ev_pos (by omega) h)))
        · obtain ⟨l', s', p', h, h'⟩ := ih (l ++ [v]) (q2 + 1) (by simp [hl]) (by omega) (by omega)
          refine ⟨l', s', p', Ev.step (fun _ => rfl) ?_, h'⟩
          simp only [spec_l20Regions.j2]
          rw [w64s (by omega)]
          exact Ev.bind hc (ev_neg e0 (ev_pos (by omega) h))
      have j1 : ∀ (v : Int) (t : Bool) (q2 : Int), (t = true → 0 < i) → p1 ≤ q2 → q2 ≤ p1 + 4 * i + 1 → ∃ l' s' p', Ev (fun k => spec_l20Regions.j1 k n s l (i : Int) v t b q2) (l', s', p') ∧ p ≤ p' ∧ p' ≤ p + 100 ∧ l'.length ≤ 16 ∧ 3 ≤ l'.length := by
        intro v t q2 ht h1 h2
        cases t with
        | true =>
          have ht := ht rfl
          have hw1 : wrap64 ((i : Int) - 1) = (i : Int) - 1 := w64 (by omega) (by omega)
          obtain ⟨l', s', p', h, h'⟩ := j2 (rd l ((i : Int) - 1)) q2 h1 h2
          refine ⟨l', s', p', Ev.step (fun _ => rfl) ?_, h'⟩
          simp only [spec_l20Regions.j1]
          rw [hw1]
          exact ev_pos trivial (ev_pos (by omega) (ev_pos (by omega) h))
        | false =>
          obtain ⟨l', s', p', h, h'⟩ := j2 v q2 h1 h2
          refine ⟨l', s', p', Ev.step (fun _ => rfl) ?_, h'⟩
          simp only [spec_l20Regions.j1]
          exact ev_neg (by simp) h
      by_cases hi0 : (i : Int) > 0
      · obtain ⟨c, hc, _⟩ := spec_l20Rd_pick_ev b q 4 hb (by omega) (by omega) (by omega)
        obtain ⟨l', s', p', h, h'⟩ := j1 (wrap64 (Int.tdiv (i : Int) s)) (c == 0) (q + 1) (fun _ => by omega) (by omega) (by omega)
        refine ⟨l', s', p', Ev.step (fun _ => rfl) ?_, h'⟩
        simp only [spec_l20Regions.l0]
        rw [hw, hN]
        exact ev_pos (by omega) (ev_neg (by omega) (ev_pos hi0 (Ev.bind hc h)))
      · obtain ⟨l', s', p', h, h'⟩ := j1 (wrap64 (Int.tdiv (i : Int) s)) false q (fun h => by simp at h) (by omega) (by omega)
        refine ⟨l', s', p', Ev.step (fun _ => rfl) ?_, h'⟩
        simp only [spec_l20Regions.l0]
        rw [hw, hN]
        exact ev_pos (by omega) (ev_neg (by omega) (ev_neg hi0 h))
  obtain ⟨l', s', p', h, h'⟩ := key 0 (by omega) [] p1 rfl (by omega) (by omega)
  exact ⟨l', s', p', Ev.bind hs h, h'⟩
theorem slices_Index_int_int_ev (l : List Int) (v : Int) (hl : l.length ≤ 4611686018427387904) : ∃ r, Ev (fun k => slices_Index_int_int.f k l v) r ∧ (0 ≤ r ↔ v ∈ l) := by
  have key : ∀ i, i ≤ l.length → ∃ r, Ev (fun k => slices_Index_int_int.l0 k l v (l.length : Int) (i : Int)) r ∧ (0 ≤ r ↔ v ∈ l.drop i) := by
    refine up l.length ?_ ?_
    · refine ⟨-1, Ev.step (fun _ => rfl) ?_, by simp⟩
      simp only [slices_Index_int_int.l0]
      exact ev_neg (by omega) (ev_now rfl)
    · intro i hi ih
      obtain ⟨r, hr, hr'⟩ := ih
      by_cases e : v = l[i]
      · refine ⟨(i : Int), Ev.step (fun _ => rfl) ?_, ?_⟩
        · simp only [slices_Index_int_int.l0]
          refine ev_pos (by omega) (ev_pos (by omega) (ev_pos (by omega) (ev_pos ?_ (ev_now rfl))))
          rw [rd_nat l i hi]; exact e
        · rw [drop_step l i hi]; exact ⟨fun _ => by rw [e]; exact List.mem_cons_self, fun _ => by omega⟩
      · refine ⟨r, Ev.step (fun _ => rfl) ?_, ?_⟩
        · simp only [slices_Index_int_int.l0]
          rw [rd_nat l i hi, w64s (by omega)]
          exact ev_pos (by omega) (ev_pos (by omega) (ev_pos (by omega) (ev_neg e hr)))
        · rw [drop_step l i hi, List.mem_cons, hr']
          exact ⟨fun h => .inr h, fun h => h.resolve_left e⟩
  obtain ⟨r, hr, hr'⟩ := key 0 (by omega)
  exact ⟨r, by unfold slices_Index_int_int.f; simpa using hr, by simpa using hr'⟩
theorem slices_Contains_int_int_ev (l : List Int) (v : Int) (hl : l.length ≤ 4611686018427387904) : Ev (fun k => slices_Contains_int_int.f k l v) (decide (v ∈ l)) := by
  obtain ⟨r, hr, h⟩ := slices_Index_int_int_ev l v hl
  unfold slices_Contains_int_int.f
  refine Ev.bind hr (ev_now ?_)
  rw [decide_eq_decide]; exact h
theorem impl_RuleValid_ev (kd : Int) (cells : List Int) (v s : Int) (hl : cells.length ≤ 4611686018427387904) : Ev (fun k => impl_RuleValid.f k kd cells v s) (decide (Mo.RuleOk kd cells v s)) := by
  unfold impl_RuleValid.f
  refine ev_bindc (impl_sizeOk_eq s) ?_
  by_cases hs' : ¬ Mo.SizeOk s
  · refine ev_neg (by simpa using hs') (ev_now ?_)
    symm; rw [decide_eq_false_iff_not]; exact fun h => hs' h.1
  have hs := Classical.not_not.1 hs'
  refine ev_pos (by simpa using hs) ?_
  have hss := hs
  unfold Mo.SizeOk at hss
  have hw : wrap64 (s * s) = s * s := by rcases hs.cases with rfl | rfl | rfl <;> exact w64 (by decide) (by decide)
  have hw4 : wrap64 (wrap64 (wrap64 (s * s) * s) * s) = s * s * s * s := by
    rcases hs.cases with rfl | rfl | rfl <;> decide +kernel
  have tail : ∀ n : Nat, cells.length = n → Ev (fun k => (if kd = 1 then (if (cells.length : Int) ≥ 2 then (if (cells.length : Int) ≤ 4 then (some (v == 0)) else (some false)) else (some false)) else (if kd = 2 then (impl_RuleValid.j1 k s (cells.length : Int) kd (kd == 2) kd cells v) else (impl_RuleValid.j1 k s (cells.length : Int) kd (kd == 3) kd cells v)))) (decide (Mo.kindOk kd v s n)) := by
    intro n hn
    rw [hn]
    have hj : ∀ b : Bool, (b = true ↔ kd = 2 ∨ kd = 3) → kd ≠ 1 → Ev (fun k => impl_RuleValid.j1 k s (n : Int) kd b kd cells v) (decide (Mo.kindOk kd v s n)) := by
      intro b hb h1
      refine Ev.step (fun _ => rfl) ?_
      simp only [impl_RuleValid.j1]
      rw [hw4]
      by_cases h23 : b = true
      · have h23' := hb.1 h23
        refine ev_pos h23 ?_
        by_cases a1 : (n : Int) ≥ 1
        · refine ev_pos a1 ?_
          by_cases a2 : (n : Int) ≤ 4
          · refine ev_pos a2 ?_
            by_cases a3 : v ≥ 1
            · refine ev_pos a3 (ev_now ?_)
              rw [decide_eq_decide]; unfold Mo.kindOk
              constructor
              · intro h; exact .inr (.inl ⟨h23', by omega, by omega, a3, h⟩)
              · rintro (h | h | h | h)
                · omega
                · exact h.2.2.2.2
                · omega
                · omega
            · refine ev_neg a3 (ev_now ?_); symm; rw [decide_eq_false_iff_not]; unfold Mo.kindOk
              rintro (h | h | h | h) <;> omega
          · refine ev_neg a2 (ev_now ?_); symm; rw [decide_eq_false_iff_not]; unfold Mo.kindOk
            rintro (h | h | h | h) <;> omega
        · refine ev_neg a1 (ev_now ?_); symm; rw [decide_eq_false_iff_not]; unfold Mo.kindOk
          rintro (h | h | h | h) <;> omega
      · have h23' : ¬ (kd = 2 ∨ kd = 3) := fun h => h23 (hb.2 h)
        refine ev_neg h23 ?_
        by_cases h4 : kd = 4
        · refine ev_pos h4 ?_
          by_cases a1 : (n : Int) = 2
          · refine ev_pos a1 (ev_now ?_)
            rw [Bool.beq_eq_decide_eq, decide_eq_decide]; unfold Mo.kindOk; omega
          · refine ev_neg a1 (ev_now ?_); symm; rw [decide_eq_false_iff_not]; unfold Mo.kindOk; omega
        · refine ev_neg h4 ?_
          by_cases h5 : kd = 5
          · refine ev_pos h5 ?_
            by_cases a1 : (n : Int) = 2
            · refine ev_pos a1 ?_
              by_cases a3 : v ≥ 0
              · refine ev_pos a3 (ev_now ?_)
                rw [decide_eq_decide]; unfold Mo.kindOk; omega
              · refine ev_neg a3 (ev_now ?_); symm; rw [decide_eq_false_iff_not]; unfold Mo.kindOk; omega
            · refine ev_neg a1 (ev_now ?_); symm; rw [decide_eq_false_iff_not]; unfold Mo.kindOk; omega
          · refine ev_neg h5 (ev_now ?_); symm; rw [decide_eq_false_iff_not]; unfold Mo.kindOk; omega
    by_cases h1 : kd = 1
    · refine ev_pos h1 ?_
      by_cases a1 : (n : Int) ≥ 2
      · refine ev_pos a1 ?_
        by_cases a2 : (n : Int) ≤ 4
        · refine ev_pos a2 (ev_now ?_)
          rw [Bool.beq_eq_decide_eq, decide_eq_decide]; unfold Mo.kindOk; omega
        · refine ev_neg a2 (ev_now ?_); symm; rw [decide_eq_false_iff_not]; unfold Mo.kindOk; omega
      · refine ev_neg a1 (ev_now ?_); symm; rw [decide_eq_false_iff_not]; unfold Mo.kindOk; omega
    · refine ev_neg h1 ?_
      by_cases h2 : kd = 2
      · exact ev_pos h2 (hj _ (by simp [h2]) h1)
      · exact ev_neg h2 (hj _ (by simp [h2]) h1)
  have key : ∀ i, i ≤ cells.length → (cells.take i).Nodup → Mo.AllIn 0 (s * s - 1) (cells.take i) → Ev (fun k => impl_RuleValid.l0 k s cells (cells.length : Int) (i : Int) kd cells v) (decide (Mo.RuleOk kd cells v s)) := by
    refine up cells.length ?_ ?_
    · intro h1 h2
      refine Ev.step (fun _ => rfl) ?_
      simp only [impl_RuleValid.l0]
      refine ev_neg (by omega) (ev_of_eq (tail _ rfl) ?_)
      rw [List.take_length] at h1 h2
      rw [decide_eq_decide]
      exact ⟨fun h => ⟨hs, h1, h2, h⟩, fun h => h.2.2.2⟩
    · intro i hi ih h1 h2
      refine Ev.step (fun _ => rfl) ?_
      simp only [impl_RuleValid.l0]
      refine ev_pos (by omega) (ev_pos (by omega) (ev_pos (by omega) ?_))
      rw [rd_nat cells i hi, w64s (by omega), hw, Int.toNat_natCast]
      have bad : ¬ (0 ≤ cells[i] ∧ cells[i] ≤ s * s - 1 ∧ cells[i] ∉ cells.take i) → false = decide (Mo.RuleOk kd cells v s) := by
        intro hb
        symm; rw [decide_eq_false_iff_not]
        intro h
        have ha := h.2.2.1 cells[i] (List.getElem_mem _)
        refine hb ⟨ha.1, ha.2, ?_⟩
        have hn : (cells.take (i + 1)).Nodup := List.Nodup.sublist (List.take_sublist _ _) h.2.1
        exact ((Mo.take_nodup cells i hi).1 hn).2
      by_cases e1 : cells[i] < 0
      · exact ev_pos e1 (ev_now (bad (by omega)))
      · refine ev_neg e1 ?_
        by_cases e2 : cells[i] ≥ s * s
        · exact ev_pos e2 (ev_now (bad (by omega)))
        · refine ev_neg e2 (ev_pos (by omega) ?_)
          refine Ev.bind (slices_Contains_int_int_ev (cells.take i) cells[i] (by simp; omega)) ?_
          by_cases e3 : cells[i] ∈ cells.take i
          · exact ev_pos (by simpa using e3) (ev_now (bad (fun h => h.2.2 e3)))
          · refine ev_neg (by simpa using e3) (ih ?_ ?_)
            · exact (Mo.take_nodup cells i hi).2 ⟨h1, e3⟩
            · exact (Mo.take_allIn _ _ cells i hi).2 ⟨h2, by omega, by omega⟩
  simpa using key 0 (by omega) (by simp) (by simp [Mo.AllIn])
theorem impl_GridValid_ev (l : List Int) (s : Int) (hl : l.length ≤ 4611686018427387904) : Ev (fun k => impl_GridValid.f k l s) (decide (Mo.SqOk s l s)) := by
  have key : ∀ i, i ≤ l.length → Ev (fun k => impl_GridValid.l0 k s l (l.length : Int) (i : Int)) (decide (Mo.AllIn 0 s (l.drop i))) := by
    refine up l.length ?_ ?_
    · refine Ev.step (fun _ => rfl) ?_
      simp only [impl_GridValid.l0]
      refine ev_neg (by omega) (ev_now ?_)
      simp [Mo.AllIn.nil]
    · intro i hi ih
      refine Ev.step (fun _ => rfl) ?_
      simp only [impl_GridValid.l0]
      refine ev_pos (by omega) (ev_pos (by omega) (ev_pos (by omega) ?_))
      rw [rd_nat l i hi, w64s (by omega), drop_step l i hi]
      by_cases e : l[i] < 0
      · refine ev_pos e (ev_now ?_)
        symm; rw [decide_eq_false_iff_not, Mo.AllIn.cons]; omega
      · refine ev_neg e ?_
        by_cases e' : l[i] > s
        · refine ev_pos e' (ev_now ?_)
          symm; rw [decide_eq_false_iff_not, Mo.AllIn.cons]; omega
        · refine ev_neg e' (ev_of_eq ih ?_)
          rw [decide_eq_decide, Mo.AllIn.cons]
          exact ⟨fun h => ⟨by omega, h⟩, fun h => h.2⟩
  unfold impl_GridValid.f
  refine ev_bindc (impl_sizeOk_eq s) ?_
  by_cases hs : Mo.SizeOk s
  · have hs' := hs
    unfold Mo.SizeOk at hs'
    refine ev_pos (by simpa using hs) (Ev.step (fun _ => rfl) ?_)
    simp only [impl_GridValid.j0]
    have hw : wrap64 (s * s) = s * s := by rcases hs.cases with rfl | rfl | rfl <;> exact w64 (by decide) (by decide)
    rw [hw]
    by_cases hn : (l.length : Int) = s * s
    · refine ev_neg (by simp [hn]) (ev_of_eq (key 0 (by omega)) ?_)
      rw [decide_eq_decide]
      exact ⟨fun h => ⟨hs, hn, by simpa using h⟩, fun h => by simpa using h.2.2⟩
    · refine ev_pos (by simp [hn]) (ev_now ?_)
      symm; rw [decide_eq_false_iff_not]; exact fun h => hn h.2.1
  · refine ev_neg (by simpa using hs) (Ev.step (fun _ => rfl) ?_)
    simp only [impl_GridValid.j0]
    refine ev_pos trivial (ev_now ?_)
    symm; rw [decide_eq_false_iff_not]; exact fun h => hs h.1
theorem impl_SquareOf_ev (s : Int) (h : Mo.SizeOk s) : Ev (fun k => impl_SquareOf.f k s) (Mo.square s) := by
  rcases h.cases with rfl | rfl | rfl
  · exact Ev.of (impl_SquareOf.mono _) (k := 30) (by decide +kernel)
  · exact Ev.of (impl_SquareOf.mono _) (k := 30) (by decide +kernel)
  · exact Ev.of (impl_SquareOf.mono _) (k := 30) (by decide +kernel)
theorem impl_valuesHold_1 (cells : List Int) (v : Int) (vals : List Int) (hl : vals.length ≤ 4611686018427387904) : Ev (fun k => impl_valuesHold.f k 1 cells v vals) (decide vals.Nodup) := by
  have key : ∀ i, i ≤ vals.length → ∀ a b : Int, (vals.take i).Nodup → Ev (fun k => impl_valuesHold.l0 k vals a b vals (vals.length : Int) (i : Int) 1 cells v) (decide vals.Nodup) := by
    refine up vals.length ?_ ?_
    · intro a b h
      refine Ev.step (fun _ => rfl) ?_
      simp only [impl_valuesHold.l0]
      rw [List.take_length] at h
      exact ev_neg (by omega) (ev_neg (by omega) (ev_neg (by omega) (ev_neg (by omega) (ev_neg (by omega) (ev_now (by simp [h]))))))
    · intro i hi ih a b h
      refine Ev.step (fun _ => rfl) ?_
      simp only [impl_valuesHold.l0]
      rw [rd_nat vals i hi, w64s (n := i) (by omega), Int.toNat_natCast]
      refine ev_pos (by omega) (ev_pos (by omega) (ev_pos (by omega) (ev_pos trivial (ev_pos (by omega) ?_))))
      refine Ev.bind (slices_Contains_int_int_ev (vals.take i) vals[i] (by simp; omega)) ?_
      by_cases e : vals[i] ∈ vals.take i
      · refine ev_pos (by simpa using e) (ev_now ?_)
        symm; rw [decide_eq_false_iff_not]
        intro hn
        have : (vals.take (i + 1)).Nodup := List.Nodup.sublist (List.take_sublist _ _) hn
        exact ((Mo.take_nodup vals i hi).1 this).2 e
      · exact ev_neg (by simpa using e) (ih _ _ ((Mo.take_nodup vals i hi).2 ⟨h, e⟩))
  unfold impl_valuesHold.f
  simpa using key 0 (by omega) 0 1 (by simp)
theorem impl_RuleHolds_1 (cells : List Int) (v s : Int) (grid : List Int) (hr : Mo.RuleOk 1 cells v s) (hg : Mo.SqOk s grid s) (hne : ∀ c ∈ cells, rd grid c ≠ 0) :
    Ev (fun k => impl_RuleHolds.f k 1 cells v grid s) (decide (cells.map (rd grid)).Nodup) := by
  have h16 := hg.len16
  have hcl : cells.length ≤ 4 := by have := hr.2.2.2; unfold Mo.kindOk at this; omega
  have hlen := hg.2.1
  unfold impl_RuleHolds.f
  refine Ev.bind (impl_RuleValid_ev 1 cells v s (by omega)) (ev_pos (by simpa using hr) (Ev.bind (impl_GridValid_ev grid s (by omega)) (Ev.step (fun _ => rfl) ?_)))
  simp only [impl_RuleHolds.j0]
  refine ev_neg (by simp [hg]) ?_
  have key : ∀ i, i ≤ cells.length → Ev (fun k => impl_RuleHolds.l0 k grid ((cells.take i).map (rd grid)) cells (cells.length : Int) (i : Int) 1 cells v) (decide (cells.map (rd grid)).Nodup) := by
    refine up cells.length ?_ ?_
    · refine Ev.step (fun _ => rfl) ?_
      simp only [impl_RuleHolds.l0]
      rw [List.take_length]
      exact ev_neg (by omega) (Ev.bind (impl_valuesHold_1 cells v _ (by simp; omega)) (ev_now rfl))
    · intro i hi ih
      have hc := hr.2.2.1 cells[i] (List.getElem_mem _)
      refine Ev.step (fun _ => rfl) ?_
      simp only [impl_RuleHolds.l0]
      rw [rd_nat cells i hi, w64s (n := i) (by omega)]
      refine ev_pos (by omega) (ev_pos (by omega) (ev_pos (by omega) (ev_pos (by omega) (ev_pos (by omega) (ev_neg (hne _ (List.getElem_mem _)) (ev_pos (by simp; omega) ?_))))))
      have e : (cells.take i).map (rd grid) ++ [rd grid cells[i]] = (cells.take (i + 1)).map (rd grid) := by
        rw [List.take_succ_eq_append_getElem hi, List.map_append]; rfl
      rw [e]; exact ih
  simpa using key 0 (by omega)
/-- The rules of the regions from n on, r regions; none and false if one has too many cells. -/
def regRules (l : List Int) : Nat → Int → List S62 → List S62 × Bool
  | 0, _, acc => (acc, true)
  | r + 1, n, acc => if (Mo.places n 0 l).length > 4 then ([], false) else if (Mo.places n 0 l).length ≥ 2 then regRules l r (n + 1) (acc ++ [⟨1, Mo.places n 0 l, 0⟩]) else regRules l r (n + 1) acc
theorem regRules_facts (l : List Int) (P : S62 → Prop) : ∀ (r : Nat) (n : Int) (acc : List S62), (∀ x ∈ acc, P x) → (∀ m : Int, n ≤ m → m < n + r → 2 ≤ (Mo.places m 0 l).length → (Mo.places m 0 l).length ≤ 4 → P ⟨1, Mo.places m 0 l, 0⟩) →
    (∀ x ∈ (regRules l r n acc).1, P x) ∧ (regRules l r n acc).1.length ≤ acc.length + r ∧ ((regRules l r n acc).2 = false → (regRules l r n acc).1 = [])
  | 0, n, acc, h, _ => ⟨h, Nat.le_refl _, fun h => by cases h⟩
  | r + 1, n, acc, h, hp => by
    unfold regRules
    by_cases h4 : (Mo.places n 0 l).length > 4
    · rw [if_pos h4]; exact ⟨fun x hx => (by cases hx), Nat.zero_le _, fun _ => rfl⟩
    · rw [if_neg h4]
      by_cases h2 : (Mo.places n 0 l).length ≥ 2
      · rw [if_pos h2]
        obtain ⟨a, b, c⟩ := regRules_facts l P r (n + 1) (acc ++ [⟨1, Mo.places n 0 l, 0⟩]) (fun x hx => by
          rcases List.mem_append.1 hx with hx | hx
          · exact h x hx
          · simp at hx; rw [hx]; exact hp n (by omega) (by omega) h2 (by omega)) (fun m h1 h2 => hp m (by omega) (by omega))
        exact ⟨a, by simp at b; omega, c⟩
      · rw [if_neg h2]
        obtain ⟨a, b, c⟩ := regRules_facts l P r (n + 1) acc h (fun m h1 h2 => hp m (by omega) (by omega))
        exact ⟨a, by omega, c⟩
theorem impl_RegionRules_ev (l : List Int) (s : Int) (hl : l.length ≤ 4611686018427387904) : Ev (fun k => impl_RegionRules.f k l s) (if Mo.SqOk (s - 1) l s then regRules l s.toNat 0 [] else ([], false)) := by
  unfold impl_RegionRules.f
  refine Ev.bind (impl_RegionsValid_ev l s hl) ?_
  by_cases hv : Mo.SqOk (s - 1) l s
  · rw [if_pos hv]
    refine ev_pos (by simpa using hv) ?_
    have hs := hv.1
    unfold Mo.SizeOk at hs
    have key : ∀ i, i ≤ s.toNat → ∀ acc : List S62, acc.length ≤ i → Ev (fun k => impl_RegionRules.l0 k l s acc s (i : Int)) (regRules l (s.toNat - i) (i : Int) acc) := by
      refine up s.toNat ?_ ?_
      · intro acc _
        refine Ev.step (fun _ => rfl) ?_
        simp only [impl_RegionRules.l0]
        refine ev_neg (by omega) (ev_now ?_)
        rw [Nat.sub_self]; rfl
      · intro i hi ih acc ha
        obtain ⟨r, hr⟩ : ∃ r, s.toNat - i = r + 1 := ⟨s.toNat - i - 1, by omega⟩
        have hr' : s.toNat - (i + 1) = r := by omega
        rw [hr'] at ih
        refine Ev.step (fun _ => rfl) ?_
        simp only [impl_RegionRules.l0]
        rw [hr, regRules, w64s (by omega)]
        refine ev_pos (by omega) (Ev.bind (impl_RegionCells_ev l s (i : Int) hl) ?_)
        rw [if_pos ⟨hv, by omega, by omega⟩]
        by_cases h4 : (Mo.places (i : Int) 0 l).length > 4
        · rw [if_pos h4]; exact ev_pos (by omega) (ev_now rfl)
        · rw [if_neg h4]
          refine ev_neg (by omega) ?_
          by_cases h2 : (Mo.places (i : Int) 0 l).length ≥ 2
          · rw [if_pos h2]
            exact ev_pos (by omega) (ev_pos (by omega) (ih _ (by simp; omega)))
          · rw [if_neg h2]
            exact ev_neg (by omega) (ih _ (by omega))
    simpa using key 0 (by omega) [] (by simp)
  · rw [if_neg hv]
    exact ev_neg (by simpa using hv) (ev_now rfl)
theorem spec_RegionRules_ev (l : List Int) (s : Int) (hl : l.length ≤ 4611686018427387904) : Ev (fun k => spec_RegionRules.f k l s) (if Mo.SqOk (s - 1) l s then regRules l s.toNat 0 [] else ([], false)) := by
  unfold spec_RegionRules.f
  refine ev_some (Ev.bind (spec_RegionsValid_ev l s hl) ?_)
  by_cases hv : Mo.SqOk (s - 1) l s
  · rw [if_pos hv]
    refine ev_pos (by simpa using hv) ?_
    have hs := hv.1
    unfold Mo.SizeOk at hs
    have key : ∀ i, i ≤ s.toNat → ∀ acc : List S62, acc.length ≤ i → Ev (fun k => spec_RegionRules.l0 k l s acc (i : Int)) (regRules l (s.toNat - i) (i : Int) acc) := by
      refine up s.toNat ?_ ?_
      · intro acc _
        refine Ev.step (fun _ => rfl) ?_
        simp only [spec_RegionRules.l0]
        refine ev_neg (by omega) (ev_now ?_)
        rw [Nat.sub_self]; rfl
      · intro i hi ih acc ha
        obtain ⟨r, hr⟩ : ∃ r, s.toNat - i = r + 1 := ⟨s.toNat - i - 1, by omega⟩
        have hr' : s.toNat - (i + 1) = r := by omega
        rw [hr'] at ih
        refine Ev.step (fun _ => rfl) ?_
        simp only [spec_RegionRules.l0]
        rw [hr, regRules, w64s (by omega)]
        refine ev_pos (by omega) (Ev.bind (spec_RegionCells_ev l s (i : Int) hl) ?_)
        rw [if_pos ⟨hv, by omega, by omega⟩]
        by_cases h4 : (Mo.places (i : Int) 0 l).length > 4
        · rw [if_pos h4]; exact ev_pos (by omega) (ev_now rfl)
        · rw [if_neg h4]
          refine ev_neg (by omega) ?_
          by_cases h2 : (Mo.places (i : Int) 0 l).length ≥ 2
          · rw [if_pos h2]
            exact ev_pos (by omega) (ev_pos (by omega) (ih _ (by simp; omega)))
          · rw [if_neg h2]
            exact ev_neg (by omega) (ih _ (by omega))
    simpa using key 0 (by omega) [] (by simp)
  · rw [if_neg hv]
    exact ev_neg (by simpa using hv) (ev_now rfl)
theorem spec_DrawRegionRules_ev (l : List Int) (hw : ∀ x ∈ l, (Lit.int .u8 x).wf = true) : ∃ r s, Ev (fun k => spec_DrawRegionRules.f k l) (r, s) ∧ r.length ≤ 16 := by
  obtain ⟨b, hb, hB⟩ := spec_l20Open_ev l hw
  obtain ⟨r, s, p, h, hp1, hp2, h1, h2⟩ := spec_l20Regions_ev b 0 9 hB (by omega) (by omega) (by omega)
  refine ⟨r, s, ?_, h1⟩
  unfold spec_DrawRegionRules.f
  exact ev_bindc hb (Ev.bind h (ev_now rfl))
end XFnRegionRules
open XFnRegionRules
theorem FnRegionRules : laws_FnRegionRules.Pure := by
  intro l _ _ hw
  refine Ev.rounds (r := true) ?_
  unfold laws_FnRegionRules.f
  by_cases hl : (l.length : Int) > 1048576
  · exact ev_pos hl (ev_now rfl)
  refine ev_neg hl ?_
  obtain ⟨g, s, hd, hg⟩ := spec_DrawRegionRules_ev l hw
  refine Ev.bind hd (Ev.bind (impl_RegionRules_ev g s (by omega)) (Ev.bind (spec_RegionRules_ev g s (by omega)) (ev_pos rfl (Ev.step (fun _ => rfl) ?_))))
  simp only [laws_FnRegionRules.j0]
  refine ev_neg (by simp) ?_
  by_cases hv' : ¬ Mo.SqOk (s - 1) g s
  · rw [if_neg hv']
    exact ev_neg (by simp) (ev_pos rfl (Ev.bind laws_alive_ev (ev_now rfl)))
  have hv := Classical.not_not.1 hv'
  rw [if_pos hv]
  have hs := hv.1
  have hs' := hs
  unfold Mo.SizeOk at hs'
  have hw2 : wrap64 (s * s) = s * s := by rcases hs.cases with rfl | rfl | rfl <;> exact w64 (by decide) (by decide)
  have facts := regRules_facts g (fun x => ∃ cells : List Int, x = ⟨1, cells, 0⟩ ∧ Mo.RuleOk 1 cells 0 s ∧ cells.length ≤ 4) s.toNat 0 [] (fun x hx => by cases hx) (by
    intro m h1 h2 h3 h4
    refine ⟨_, rfl, ⟨hs, ?_, ?_, ?_⟩, h4⟩
    · exact (Mo.places_sorted m g 0).imp (fun h => Int.ne_of_lt h)
    · intro c hc
      obtain ⟨j, hj, e, _⟩ := Mo.places_mem hc
      have := hv.2.1
      omega
    · exact .inl ⟨rfl, h3, h4, rfl⟩)
  obtain ⟨hx, hlen, hno⟩ := facts
  generalize regRules g s.toNat 0 [] = R at hx hlen hno
  obtain ⟨xs, ok⟩ := R
  cases ok with
  | false =>
    have : xs = [] := hno rfl
    subst this
    exact ev_neg (by simp) (ev_pos rfl (Ev.bind laws_alive_ev (ev_now rfl)))
  | true =>
    obtain ⟨hsq, hsv⟩ := Mo.square_ok hs
    refine ev_pos rfl (Ev.bind (impl_SquareOf_ev s hs) (ev_pos (by rw [hw2]; exact hsq.2.1) ?_))
    have hxl : xs.length ≤ s.toNat := by simpa using hlen
    have hql := hsq.2.1
    have l0 : ∀ i, i ≤ xs.length → Ev (fun k => laws_FnRegionRules.l0 k s xs xs (Mo.square s) (i : Int)) true := by
      refine up xs.length ?_ ?_
      · refine Ev.step (fun _ => rfl) ?_
        simp only [laws_FnRegionRules.l0]
        exact ev_neg (by omega) (ev_now (by simp; omega))
      · intro i hi ih
        obtain ⟨cells, e, hr, hc4⟩ := hx xs[i] (List.getElem_mem _)
        have hrd : rd_T62 xs (i : Int) = ⟨1, cells, 0⟩ := by
          unfold rd_T62
          rw [Int.toNat_natCast, List.getD_eq_getElem?_getD, List.getElem?_eq_getElem hi]; exact e
        have hcv : ∀ c ∈ cells, ∃ v : Nat, rd (Mo.square s) c = (v : Int) ∧ 1 ≤ v ∧ v ≤ 4 := by
          intro c hc
          have h1 := hr.2.2.1 c hc
          have h2 := hsv _ (rd_mem (Mo.square s) c h1.1 (by omega))
          exact ⟨(rd (Mo.square s) c).toNat, by omega, by omega, by omega⟩
        have hin : ∀ c ∈ cells, 0 ≤ c ∧ c < ((Mo.square s).length : Int) := fun c hc => by
          have h1 := hr.2.2.1 c hc
          omega
        have hholds := impl_RuleHolds_1 cells 0 s (Mo.square s) hr hsq (fun c hc => by obtain ⟨v, h1, h2, _⟩ := hcv c hc; omega)
        have l1 : ∀ j, j ≤ cells.length → ∀ (m : Nat) (tw : Bool), m < 2 ^ 32 → (∀ b, m.testBit b = true ↔ ((b : Nat) : Int) ∈ (cells.take j).map (rd (Mo.square s))) → (tw = true ↔ ¬ ((cells.take j).map (rd (Mo.square s))).Nodup) →
            Ev (fun k => laws_FnRegionRules.l1 k s xs xs (Mo.square s) (i : Int) (m : Int) tw (j : Int)) true := by
          refine up cells.length ?_ ?_
          · intro m tw hm hb htw
            rw [List.take_length] at htw
            refine Ev.step (fun _ => rfl) ?_
            simp only [laws_FnRegionRules.l1]
            rw [hrd, w64s (n := i) (by omega)]
            refine ev_pos (by omega) (ev_pos (by omega) (ev_neg (by show ¬ ((cells.length : Int) < (cells.length : Int)); omega) (Ev.bind hholds (ev_neg ?_ ih))))
            cases tw with
            | true => have := htw.1 rfl; simp [this]
            | false =>
              have : (cells.map (rd (Mo.square s))).Nodup := Classical.byContradiction fun h => by have := htw.2 h; cases this
              simp [this]
          · intro j hj ihj m tw hm hb htw
            have hcj := hin cells[j] (List.getElem_mem _)
            obtain ⟨v, hv1, hv2, hv3⟩ := hcv cells[j] (List.getElem_mem _)
            have hmap : (cells.take (j + 1)).map (rd (Mo.square s)) = (cells.take j).map (rd (Mo.square s)) ++ [(v : Int)] := by
              rw [List.take_succ_eq_append_getElem hj, List.map_append, List.map_cons, List.map_nil, hv1]
            have hpow : 2 ^ v < 2 ^ 32 := Nat.pow_lt_pow_right (by omega) (by omega)
            have hm' : m ||| 2 ^ v < 2 ^ 32 := Nat.or_lt_two_pow hm hpow
            have hb' : ∀ b, (m ||| 2 ^ v).testBit b = true ↔ ((b : Nat) : Int) ∈ (cells.take (j + 1)).map (rd (Mo.square s)) := by
              intro b
              rw [Mo.or_bit, hmap, List.mem_append, List.mem_singleton, Bool.or_eq_true, hb b, decide_eq_true_iff]
              constructor
              · rintro (h | h)
                · exact .inl h
                · exact .inr (by omega)
              · rintro (h | h)
                · exact .inl h
                · exact .inr (by omega)
            have hnd : ((cells.take (j + 1)).map (rd (Mo.square s))).Nodup ↔ ((cells.take j).map (rd (Mo.square s))).Nodup ∧ (v : Int) ∉ (cells.take j).map (rd (Mo.square s)) := by
              rw [hmap, List.nodup_append]
              constructor
              · rintro ⟨h1, _, h3⟩
                exact ⟨h1, fun h => h3 _ h _ (by simp) rfl⟩
              · rintro ⟨h1, h2⟩
                exact ⟨h1, by simp, fun a ha b hb e => by simp at hb; subst hb; exact h2 (e ▸ ha)⟩
            refine Ev.step (fun _ => rfl) ?_
            simp only [laws_FnRegionRules.l1]
            rw [hrd]
            refine ev_pos (by omega) (ev_pos (by omega) (ev_pos (by show (j : Int) < (cells.length : Int); omega) (ev_pos (by omega) ?_)))
            show Ev (fun k => if 0 ≤ rd cells (j : Int) then (if rd cells (j : Int) < ((Mo.square s).length : Int) then (if tw = true then (if 0 ≤ (rd (Mo.square s) (rd cells (j : Int))) then (laws_FnRegionRules.l1 k s xs xs (Mo.square s) (i : Int) (Go.bits .or .i64 (m : Int) (shl .i64 1 (rd (Mo.square s) (rd cells (j : Int))))) true (wrap64 ((j : Int) + 1))) else (none)) else (if 0 ≤ (rd (Mo.square s) (rd cells (j : Int))) then (laws_FnRegionRules.l1 k s xs xs (Mo.square s) (i : Int) (Go.bits .or .i64 (m : Int) (shl .i64 1 (rd (Mo.square s) (rd cells (j : Int))))) ((Int.tmod (shr .i64 (m : Int) (rd (Mo.square s) (rd cells (j : Int)))) 2) == 1) (wrap64 ((j : Int) + 1))) else (none))) else (none)) else (none)) true
            rw [rd_nat cells j hj, hv1, w64s (n := j) (by omega), shl_one v (by omega), or_nat m (2 ^ v) (by omega) (by omega), shr_mod m v (by omega)]
            refine ev_pos hcj.1 (ev_pos hcj.2 ?_)
            cases tw with
            | true =>
              refine ev_pos rfl (ev_pos (by omega) (ihj _ true hm' hb' ⟨fun _ h => ?_, fun _ => rfl⟩))
              exact (htw.1 rfl) ((hnd.1 h).1)
            | false =>
              refine ev_neg (by simp) (ev_pos (by omega) (ihj _ _ hm' hb' ?_))
              have h0 : ((cells.take j).map (rd (Mo.square s))).Nodup := Classical.byContradiction fun h => by have := htw.2 h; cases this
              rw [hnd]
              have hbv := hb v
              constructor
              · intro h hh
                apply hh.2
                apply hbv.1
                cases hbit : m.testBit v with
                | true => rfl
                | false => rw [hbit] at h; simp at h
              · intro h
                have : (v : Int) ∈ (cells.take j).map (rd (Mo.square s)) := Classical.byContradiction fun hn => h ⟨h0, hn⟩
                rw [hbv.2 this]; rfl
        refine Ev.step (fun _ => rfl) ?_
        simp only [laws_FnRegionRules.l0]
        rw [hrd]
        have hsame : Ev (fun k => laws_sameInts.f k cells cells) true := by simpa using laws_sameInts_ev cells cells (by omega)
        refine ev_pos (by omega) (ev_pos (by omega) (ev_pos rfl (ev_pos (by omega) (Ev.bind hsame (ev_pos rfl (Ev.bind (impl_RuleValid_ev 1 cells 0 s (by omega)) (Ev.step (fun _ => rfl) ?_)))))))
        simp only [laws_FnRegionRules.j2]
        refine ev_neg (by simp [hr]) ?_
        simpa using l1 0 (by omega) 0 false (by omega) (by simp) (by simp)
    simpa using l0 0 (by omega)

end Go.Proofs.Ytdinbpfklikghaa.Pure
