/- BoxRegions: there are four boxes, each connected and with four cells; at every code. No conditions. -/
import Derived.Test.YtinockknikfmgaaPFnBoxRegionsx4
import Derived.Test.YtinockknikfmgaaMo
set_option linter.unusedSimpArgs false
set_option linter.unusedVariables false
set_option maxRecDepth 4000
namespace Go.Proofs.Ytinockknikfmgaa.Pure
open Go.RowKit Go.Proofs.Ytinockknikfmgaa.PFnBoxRegions Go.Proofs.Ytinockknikfmgaa.Pk Go.Proofs.Ytinockknikfmgaa.Mo Go.Proofs.YtinockknikfmgaaW.PrintWords Go.Proofs.YtinockknikfmgaaW.PrintLast

namespace XFnBoxRegions
theorem laws_sameInts_ev (a b : List Int) (ha : a.length ≤ 4611686018427387904) : Ev (fun k => laws_sameInts.f k a b) (decide (a = b)) := by
  have key : b.length = a.length → ∀ i, i ≤ a.length → Ev (fun k => laws_sameInts.l0 k a b (i : Int)) (decide (a.drop i = b.drop i)) := by
    intro hl
    refine up a.length ?_ ?_
    · refine Ev.step (fun _ => rfl) ?_
      simp only [laws_sameInts.l0]
      refine ev_neg (by omega) (ev_now ?_)
      rw [List.drop_length, ← hl, List.drop_length]; simp
    · intro i hi ih
      refine Ev.step (fun _ => rfl) ?_
      simp only [laws_sameInts.l0]
      refine ev_pos (by omega) (ev_pos (by omega) (ev_pos (by omega) ?_))
      rw [rd_nat a i hi, rd_nat b i (by omega), w64s (by omega), drop_step a i hi, drop_step b i (by omega)]
      by_cases e : a[i] = b[i]
      · refine ev_pos e (ev_of_eq ih ?_); rw [decide_eq_decide, List.cons.injEq]; exact ⟨fun h => ⟨e, h⟩, fun h => h.2⟩
      · refine ev_neg e (ev_now ?_); symm; rw [decide_eq_false_iff_not, List.cons.injEq]; exact fun h => e h.1
  unfold laws_sameInts.f
  by_cases hl : b.length = a.length
  · exact ev_pos (by omega) (by simpa using key hl 0 (by omega))
  · refine ev_neg (by omega) (ev_now ?_)
    have : a ≠ b := fun e => hl (by rw [e])
    simp [this]
theorem impl_sizeOk_eq (s : Int) : impl_sizeOk.f s = some (decide (Mo.SizeOk s)) := by
  unfold impl_sizeOk.f Mo.SizeOk
  by_cases h : s ≥ 2
  · rw [if_pos h]; simp [show (2 : Int) ≤ s from h]
  · rw [if_neg h]; simp [show ¬ (2 : Int) ≤ s from h]
theorem impl_RegionsValid_ev (l : List Int) (s : Int) (hl : l.length ≤ 4611686018427387904) : Ev (fun k => impl_RegionsValid.f k l s) (decide (Mo.SqOk (s - 1) l s)) := by
  have key : ∀ i, i ≤ l.length → Ev (fun k => impl_RegionsValid.l0 k s l (l.length : Int) (i : Int)) (decide (Mo.AllIn 0 (s - 1) (l.drop i))) := by
    refine up l.length ?_ ?_
    · refine Ev.step (fun _ => rfl) ?_
      simp only [impl_RegionsValid.l0]
      refine ev_neg (by omega) (ev_now ?_)
      simp [Mo.AllIn.nil]
    · intro i hi ih
      refine Ev.step (fun _ => rfl) ?_
      simp only [impl_RegionsValid.l0]
      refine ev_pos (by omega) (ev_pos (by omega) (ev_pos (by omega) ?_))
      rw [rd_nat l i hi, w64s (by omega), drop_step l i hi]
      by_cases e : l[i] < 0
      · refine ev_pos e (ev_now ?_)
        symm; rw [decide_eq_false_iff_not, Mo.AllIn.cons]; omega
      · refine ev_neg e ?_
        by_cases e' : l[i] ≥ s
        · refine ev_pos e' (ev_now ?_)
          symm; rw [decide_eq_false_iff_not, Mo.AllIn.cons]; omega
        · refine ev_neg e' (ev_of_eq ih ?_)
          rw [decide_eq_decide, Mo.AllIn.cons]
          exact ⟨fun h => ⟨by omega, h⟩, fun h => h.2⟩
  unfold impl_RegionsValid.f
  refine ev_bindc (impl_sizeOk_eq s) ?_
  by_cases hs : Mo.SizeOk s
  · have hs' := hs
    unfold Mo.SizeOk at hs'
    refine ev_pos (by simpa using hs) (Ev.step (fun _ => rfl) ?_)
    simp only [impl_RegionsValid.j0]
    have hw : wrap64 (s * s) = s * s := by rcases hs.cases with rfl | rfl | rfl <;> exact w64 (by decide) (by decide)
    rw [hw]
    by_cases hn : (l.length : Int) = s * s
    · refine ev_neg (by simp [hn]) (ev_of_eq (key 0 (by omega)) ?_)
      rw [decide_eq_decide]
      exact ⟨fun h => ⟨hs, hn, by simpa using h⟩, fun h => by simpa using h.2.2⟩
    · refine ev_pos (by simp [hn]) (ev_now ?_)
      symm; rw [decide_eq_false_iff_not]; exact fun h => hn h.2.1
  · refine ev_neg (by simpa using hs) (Ev.step (fun _ => rfl) ?_)
    simp only [impl_RegionsValid.j0]
    refine ev_pos trivial (ev_now ?_)
    symm; rw [decide_eq_false_iff_not]; exact fun h => hs h.1
theorem impl_RegionCells_ev (l : List Int) (s r : Int) (hl : l.length ≤ 4611686018427387904) : Ev (fun k => impl_RegionCells.f k l s r) (if Mo.SqOk (s - 1) l s ∧ 0 ≤ r ∧ r < s then Mo.places r 0 l else []) := by
  unfold impl_RegionCells.f
  refine Ev.bind (impl_RegionsValid_ev l s hl) ?_
  by_cases hv : Mo.SqOk (s - 1) l s
  · have h16 := hv.len16
    have key : ∀ i, i ≤ l.length → ∀ acc : List Int, acc.length ≤ i → Ev (fun k => impl_RegionCells.l0 k r acc l (l.length : Int) (i : Int)) (acc ++ Mo.places r i (l.drop i)) := by
      refine up l.length ?_ ?_
      · intro acc ha
        refine Ev.step (fun _ => rfl) ?_
        simp only [impl_RegionCells.l0]
        refine ev_neg (by omega) (ev_now ?_)
        simp [Mo.places]
      · intro i hi ih acc ha
        refine Ev.step (fun _ => rfl) ?_
        simp only [impl_RegionCells.l0]
        refine ev_pos (by omega) (ev_pos (by omega) (ev_pos (by omega) ?_))
        rw [rd_nat l i hi, w64s (by omega), drop_step l i hi]
        by_cases e : l[i] = r
        · refine ev_pos e (ev_pos (by omega) (ev_of_eq (ih (acc ++ [(i : Int)]) (by simp; omega)) ?_))
          simp [Mo.places, e]
        · refine ev_neg e (ev_of_eq (ih acc (by omega)) ?_)
          simp [Mo.places, e]
    refine ev_pos (by simpa using hv) ?_
    by_cases h0 : r < 0
    · refine ev_pos h0 (Ev.step (fun _ => rfl) ?_)
      simp only [impl_RegionCells.j0]
      refine ev_pos trivial (ev_now ?_)
      rw [if_neg (by omega)]
    · refine ev_neg h0 (Ev.step (fun _ => rfl) ?_)
      simp only [impl_RegionCells.j0]
      by_cases h1 : r < s
      · refine ev_neg (by simp; omega) (ev_of_eq (key 0 (by omega) [] (by simp)) ?_)
        rw [if_pos ⟨hv, by omega, h1⟩]; simp
      · refine ev_pos (by simp; omega) (ev_now ?_)
        rw [if_neg (by omega)]
  · refine ev_neg (by simpa using hv) (Ev.step (fun _ => rfl) ?_)
    simp only [impl_RegionCells.j0]
    refine ev_pos trivial (ev_now ?_)
    rw [if_neg (fun h => hv h.1)]
theorem laws_alive_ev : Ev (fun k => laws_alive.f k) true := Ev.of laws_alive.mono (k := 12) (by decide +kernel)
theorem spec_BoxRegions_ev : Ev (fun k => spec_BoxRegions.f k) Mo.boxes := Ev.of spec_BoxRegions.mono (k := 20) (by decide +kernel)
end XFnBoxRegions
open XFnBoxRegions
theorem FnBoxRegions : laws_FnBoxRegions.Pure := by
  intro l _ _ _
  refine Ev.rounds (r := true) ?_
  unfold laws_FnBoxRegions.f
  by_cases hl : (l.length : Int) > 1048576
  · exact ev_pos hl (ev_now rfl)
  refine ev_neg hl ?_
  have hsame : Ev (fun k => laws_sameInts.f k Mo.boxes Mo.boxes) true := by simpa using laws_sameInts_ev Mo.boxes Mo.boxes (by decide)
  have hv : Ev (fun k => impl_RegionsValid.f k Mo.boxes 4) true := ev_of_eq (impl_RegionsValid_ev Mo.boxes 4 (by decide)) (by decide)
  refine ev_bindc (a := Mo.boxes) rfl (Ev.bind spec_BoxRegions_ev (Ev.bind hsame (ev_pos rfl (Ev.bind hv (Ev.step (fun _ => rfl) ?_)))))
  simp only [laws_FnBoxRegions.j0]
  refine ev_neg (by simp) ?_
  have hm : (l.length : Int) % 4 = 0 ∨ (l.length : Int) % 4 = 1 ∨ (l.length : Int) % 4 = 2 ∨ (l.length : Int) % 4 = 3 := by omega
  have hc : ∀ n : Int, n = 0 ∨ n = 1 ∨ n = 2 ∨ n = 3 → Ev (fun k => impl_RegionCells.f k Mo.boxes 4 n) (Mo.places n 0 Mo.boxes) := by
    intro n hn
    refine ev_of_eq (impl_RegionCells_ev Mo.boxes 4 n (by decide)) ?_
    rcases hn with rfl | rfl | rfl | rfl <;> decide
  have hcon : ∀ n : Int, n = 0 ∨ n = 1 ∨ n = 2 ∨ n = 3 → Ev (fun k => impl_RegionConnected.f k Mo.boxes 4 n) true := by
    intro n hn
    rcases hn with rfl | rfl | rfl | rfl
    · exact Ev.of (impl_RegionConnected.mono _ _ _) (k := 40) (by decide +kernel)
    · exact Ev.of (impl_RegionConnected.mono _ _ _) (k := 40) (by decide +kernel)
    · exact Ev.of (impl_RegionConnected.mono _ _ _) (k := 40) (by decide +kernel)
    · exact Ev.of (impl_RegionConnected.mono _ _ _) (k := 40) (by decide +kernel)
  generalize hn : (l.length : Int) % 4 = n at hm
  refine Ev.bind (hc n hm) ?_
  have h4 : ((Mo.places n 0 Mo.boxes).length : Int) = 4 := by rcases hm with rfl | rfl | rfl | rfl <;> decide
  refine ev_pos h4 (Ev.bind (hcon n hm) (ev_pos rfl (ev_pos (by omega) (ev_pos (by omega) (ev_pos ?_ (Ev.bind laws_alive_ev (ev_now rfl)))))))
  rcases hm with rfl | rfl | rfl | rfl <;> decide +kernel

end Go.Proofs.Ytinockknikfmgaa.Pure
