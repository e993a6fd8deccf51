/- RegionConnected: the program and the reference return the same and leave their argument alone, for all arguments. No conditions. -/
import Derived.Test.YtinockknikfmgaaPFnExactRegionConnectedx5
import Derived.Test.YtinockknikfmgaaMo
set_option linter.unusedSimpArgs false
set_option linter.unusedVariables false
set_option maxRecDepth 4000
namespace Go.Proofs.Ytinockknikfmgaa.Pure
open Go.RowKit Go.Proofs.Ytinockknikfmgaa.PFnExactRegionConnected Go.Proofs.Ytinockknikfmgaa.Pk Go.Proofs.Ytinockknikfmgaa.Mo Go.Proofs.YtinockknikfmgaaW.PrintWords Go.Proofs.YtinockknikfmgaaW.PrintLast

namespace XFnExactRegionConnected
theorem laws_eqIntS_ev (a b : List Int) (ha : a.length ≤ 4611686018427387904) : Ev (fun k => laws_eqIntS.f k a b) (decide (a = b)) := by
  have key : b.length = a.length → ∀ i, i ≤ a.length → Ev (fun k => laws_eqIntS.l0 k a b (i : Int)) (decide (a.drop i = b.drop i)) := by
    intro hl
    refine up a.length ?_ ?_
    · refine Ev.step (fun _ => rfl) ?_
      simp only [laws_eqIntS.l0]
      refine ev_neg (by omega) (ev_now ?_)
      rw [List.drop_length, ← hl, List.drop_length]; simp
    · intro i hi ih
      refine Ev.step (fun _ => rfl) ?_
      simp only [laws_eqIntS.l0]
      refine ev_pos (by omega) (ev_pos (by omega) (ev_pos (by omega) ?_))
      rw [rd_nat a i hi, rd_nat b i (by omega), w64s (by omega), drop_step a i hi, drop_step b i (by omega)]
      by_cases e : a[i] = b[i]
      · refine ev_pos e (ev_of_eq ih ?_); rw [decide_eq_decide, List.cons.injEq]; exact ⟨fun h => ⟨e, h⟩, fun h => h.2⟩
      · refine ev_neg e (ev_now ?_); symm; rw [decide_eq_false_iff_not, List.cons.injEq]; exact fun h => e h.1
  unfold laws_eqIntS.f
  by_cases hl : b.length = a.length
  · exact ev_pos (by omega) (by simpa using key hl 0 (by omega))
  · refine ev_neg (by omega) (ev_now ?_)
    have : a ≠ b := fun e => hl (by rw [e])
    simp [this]
theorem laws_toIntS_ev (a : List Int) (ha : a.length ≤ 35184372088832) : Ev (fun k => laws_toIntS.f k a) a := by
  have key : ∀ i, i ≤ a.length → Ev (fun k => laws_toIntS.l0 k a (a.take i ++ List.replicate (a.length - i) 0) (i : Int)) a := by
    refine up a.length ?_ ?_
    · refine Ev.step (fun _ => rfl) ?_
      simp only [laws_toIntS.l0]
      refine ev_neg (by omega) (ev_now ?_)
      simp
    · intro i hi ih
      refine Ev.step (fun _ => rfl) ?_
      simp only [laws_toIntS.l0]
      refine ev_pos (by omega) (ev_pos (by omega) (ev_pos (by simp; omega) ?_))
      rw [rd_nat a i hi, w64s (by omega)]
      have e : (a.take i ++ List.replicate (a.length - i) 0).set ((i : Int)).toNat a[i] = a.take (i + 1) ++ List.replicate (a.length - (i + 1)) 0 := by
        rw [Int.toNat_natCast, List.set_append_right _ _ (by simp; omega)]
        have h1 : i - (a.take i).length = 0 := by simp; omega
        rw [h1]
        obtain ⟨m, hm⟩ : ∃ m, a.length - i = m + 1 := ⟨a.length - i - 1, by omega⟩
        have h2 : a.length - (i + 1) = m := by omega
        rw [hm, List.replicate_succ, List.set_cons_zero, List.take_succ_eq_append_getElem hi, h2, List.append_assoc]; rfl
      rw [e]; exact ih
  unfold laws_toIntS.f
  refine ev_pos (by omega) (ev_pos (by omega) ?_)
  have := key 0 (by omega)
  simpa using this
theorem impl_sizeOk_eq (s : Int) : impl_sizeOk.f s = some (decide (Mo.SizeOk s)) := by
  unfold impl_sizeOk.f Mo.SizeOk
  by_cases h : s ≥ 2
  · rw [if_pos h]; simp [show (2 : Int) ≤ s from h]
  · rw [if_neg h]; simp [show ¬ (2 : Int) ≤ s from h]
theorem spec_l1In_eq (n lo hi : Int) : spec_l1In.f n lo hi = some (decide (lo ≤ n ∧ n ≤ hi)) := by
  unfold spec_l1In.f
  by_cases h : n ≥ lo
  · rw [if_pos h]; simp [show lo ≤ n from h]
  · rw [if_neg h]; simp [show ¬ lo ≤ n from h]
theorem impl_RegionsValid_ev (l : List Int) (s : Int) (hl : l.length ≤ 4611686018427387904) : Ev (fun k => impl_RegionsValid.f k l s) (decide (Mo.SqOk (s - 1) l s)) := by
  have key : ∀ i, i ≤ l.length → Ev (fun k => impl_RegionsValid.l0 k s l (l.length : Int) (i : Int)) (decide (Mo.AllIn 0 (s - 1) (l.drop i))) := by
    refine up l.length ?_ ?_
    · refine Ev.step (fun _ => rfl) ?_
      simp only [impl_RegionsValid.l0]
      refine ev_neg (by omega) (ev_now ?_)
      simp [Mo.AllIn.nil]
    · intro i hi ih
      refine Ev.step (fun _ => rfl) ?_
      simp only [impl_RegionsValid.l0]
      refine ev_pos (by omega) (ev_pos (by omega) (ev_pos (by omega) ?_))
      rw [rd_nat l i hi, w64s (by omega), drop_step l i hi]
      by_cases e : l[i] < 0
      · refine ev_pos e (ev_now ?_)
        symm; rw [decide_eq_false_iff_not, Mo.AllIn.cons]; omega
      · refine ev_neg e ?_
        by_cases e' : l[i] ≥ s
        · refine ev_pos e' (ev_now ?_)
          symm; rw [decide_eq_false_iff_not, Mo.AllIn.cons]; omega
        · refine ev_neg e' (ev_of_eq ih ?_)
          rw [decide_eq_decide, Mo.AllIn.cons]
          exact ⟨fun h => ⟨by omega, h⟩, fun h => h.2⟩
  unfold impl_RegionsValid.f
  refine ev_bindc (impl_sizeOk_eq s) ?_
  by_cases hs : Mo.SizeOk s
  · have hs' := hs
    unfold Mo.SizeOk at hs'
    refine ev_pos (by simpa using hs) (Ev.step (fun _ => rfl) ?_)
    simp only [impl_RegionsValid.j0]
    have hw : wrap64 (s * s) = s * s := by rcases hs.cases with rfl | rfl | rfl <;> exact w64 (by decide) (by decide)
    rw [hw]
    by_cases hn : (l.length : Int) = s * s
    · refine ev_neg (by simp [hn]) (ev_of_eq (key 0 (by omega)) ?_)
      rw [decide_eq_decide]
      exact ⟨fun h => ⟨hs, hn, by simpa using h⟩, fun h => by simpa using h.2.2⟩
    · refine ev_pos (by simp [hn]) (ev_now ?_)
      symm; rw [decide_eq_false_iff_not]; exact fun h => hn h.2.1
  · refine ev_neg (by simpa using hs) (Ev.step (fun _ => rfl) ?_)
    simp only [impl_RegionsValid.j0]
    refine ev_pos trivial (ev_now ?_)
    symm; rw [decide_eq_false_iff_not]; exact fun h => hs h.1
theorem spec_RegionsValid_ev (l : List Int) (s : Int) (hl : l.length ≤ 4611686018427387904) : Ev (fun k => spec_RegionsValid.f k l s) (decide (Mo.SqOk (s - 1) l s)) := by
  by_cases hs : Mo.SizeOk s
  · have hs' := hs
    unfold Mo.SizeOk at hs'
    have hw : wrap64 (s * s) = s * s := by rcases hs.cases with rfl | rfl | rfl <;> exact w64 (by decide) (by decide)
    have hw1 : wrap64 (s - 1) = s - 1 := w64 (by omega) (by omega)
    have key : ∀ i, i ≤ l.length → Ev (fun k => spec_RegionsValid.l0 k l s (i : Int)) (decide ((l.length : Int) = s * s ∧ Mo.AllIn 0 (s - 1) (l.drop i))) := by
      refine up l.length ?_ ?_
      · refine Ev.step (fun _ => rfl) ?_
        simp only [spec_RegionsValid.l0]
        refine ev_neg (by omega) (ev_bindc (spec_l1In_eq _ _ _) (ev_pos (by simpa using hs') (ev_now ?_)))
        simp [Mo.AllIn.nil, hw]
        exact (Bool.beq_eq_decide_eq _ _)
      · intro i hi ih
        refine Ev.step (fun _ => rfl) ?_
        simp only [spec_RegionsValid.l0]
        refine ev_pos (by omega) (ev_pos (by omega) (ev_bindc (spec_l1In_eq _ _ _) ?_))
        rw [rd_nat l i hi, w64s (by omega), drop_step l i hi, hw1]
        by_cases e : 0 ≤ l[i] ∧ l[i] ≤ s - 1
        · refine ev_pos (by simpa using e) (ev_of_eq ih ?_)
          rw [decide_eq_decide, Mo.AllIn.cons]
          exact ⟨fun h => ⟨h.1, e, h.2⟩, fun h => ⟨h.1, h.2.2⟩⟩
        · refine ev_neg (by simpa using e) (ev_now ?_)
          symm; rw [decide_eq_false_iff_not, Mo.AllIn.cons]; exact fun h => e h.2.1
    unfold spec_RegionsValid.f
    refine ev_of_eq (key 0 (by omega)) ?_
    rw [decide_eq_decide]
    exact ⟨fun h => ⟨hs, by simpa using h⟩, fun h => by simpa using h.2⟩
  · have key : ∀ i, i ≤ l.length → Ev (fun k => spec_RegionsValid.l0 k l s (i : Int)) false := by
      refine up l.length ?_ ?_
      · refine Ev.step (fun _ => rfl) ?_
        simp only [spec_RegionsValid.l0]
        exact ev_neg (by omega) (ev_bindc (spec_l1In_eq _ _ _) (ev_neg (by simpa [Mo.SizeOk] using hs) (ev_now rfl)))
      · intro i hi ih
        refine Ev.step (fun _ => rfl) ?_
        simp only [spec_RegionsValid.l0]
        refine ev_pos (by omega) (ev_pos (by omega) (ev_bindc (spec_l1In_eq _ _ _) ?_))
        rw [w64s (by omega)]
        by_cases e : decide (0 ≤ rd l (i : Int) ∧ rd l (i : Int) ≤ wrap64 (s - 1)) = true
        · exact ev_pos e ih
        · exact ev_neg e (ev_now rfl)
    unfold spec_RegionsValid.f
    refine ev_of_eq (key 0 (by omega)) ?_
    symm; rw [decide_eq_false_iff_not]; exact fun h => hs h.1
theorem impl_RegionCells_ev (l : List Int) (s r : Int) (hl : l.length ≤ 4611686018427387904) : Ev (fun k => impl_RegionCells.f k l s r) (if Mo.SqOk (s - 1) l s ∧ 0 ≤ r ∧ r < s then Mo.places r 0 l else []) := by
  unfold impl_RegionCells.f
  refine Ev.bind (impl_RegionsValid_ev l s hl) ?_
  by_cases hv : Mo.SqOk (s - 1) l s
  · have h16 := hv.len16
    have key : ∀ i, i ≤ l.length → ∀ acc : List Int, acc.length ≤ i → Ev (fun k => impl_RegionCells.l0 k r acc l (l.length : Int) (i : Int)) (acc ++ Mo.places r i (l.drop i)) := by
      refine up l.length ?_ ?_
      · intro acc ha
        refine Ev.step (fun _ => rfl) ?_
        simp only [impl_RegionCells.l0]
        refine ev_neg (by omega) (ev_now ?_)
        simp [Mo.places]
      · intro i hi ih acc ha
        refine Ev.step (fun _ => rfl) ?_
        simp only [impl_RegionCells.l0]
        refine ev_pos (by omega) (ev_pos (by omega) (ev_pos (by omega) ?_))
        rw [rd_nat l i hi, w64s (by omega), drop_step l i hi]
        by_cases e : l[i] = r
        · refine ev_pos e (ev_pos (by omega) (ev_of_eq (ih (acc ++ [(i : Int)]) (by simp; omega)) ?_))
          simp [Mo.places, e]
        · refine ev_neg e (ev_of_eq (ih acc (by omega)) ?_)
          simp [Mo.places, e]
    refine ev_pos (by simpa using hv) ?_
    by_cases h0 : r < 0
    · refine ev_pos h0 (Ev.step (fun _ => rfl) ?_)
      simp only [impl_RegionCells.j0]
      refine ev_pos trivial (ev_now ?_)
      rw [if_neg (by omega)]
    · refine ev_neg h0 (Ev.step (fun _ => rfl) ?_)
      simp only [impl_RegionCells.j0]
      by_cases h1 : r < s
      · refine ev_neg (by simp; omega) (ev_of_eq (key 0 (by omega) [] (by simp)) ?_)
        rw [if_pos ⟨hv, by omega, h1⟩]; simp
      · refine ev_pos (by simp; omega) (ev_now ?_)
        rw [if_neg (by omega)]
  · refine ev_neg (by simpa using hv) (Ev.step (fun _ => rfl) ?_)
    simp only [impl_RegionCells.j0]
    refine ev_pos trivial (ev_now ?_)
    rw [if_neg (fun h => hv h.1)]
theorem spec_RegionCells_ev (l : List Int) (s r : Int) (hl : l.length ≤ 4611686018427387904) : Ev (fun k => spec_RegionCells.f k l s r) (if Mo.SqOk (s - 1) l s ∧ 0 ≤ r ∧ r < s then Mo.places r 0 l else []) := by
  by_cases hv : Mo.SqOk (s - 1) l s
  · have h16 := hv.len16
    have key : ∀ i, i ≤ l.length → ∀ acc : List Int, acc.length ≤ i → Ev (fun k => spec_RegionCells.l0 k l s r acc (i : Int)) (acc ++ Mo.places r i (l.drop i)) := by
      refine up l.length ?_ ?_
      · intro acc ha
        refine Ev.step (fun _ => rfl) ?_
        simp only [spec_RegionCells.l0]
        refine ev_neg (by omega) (Ev.step (fun _ => rfl) ?_)
        simp only [spec_RegionCells.j1]
        refine ev_neg (by simp) (ev_now ?_)
        simp [Mo.places]
      · intro i hi ih acc ha
        refine Ev.step (fun _ => rfl) ?_
        simp only [spec_RegionCells.l0]
        refine ev_pos (by omega) (Ev.bind (spec_RegionsValid_ev l s hl) (Ev.step (fun _ => rfl) ?_))
        simp only [spec_RegionCells.j1]
        refine ev_pos (by simpa using hv) (ev_pos (by omega) (ev_pos (by omega) ?_))
        rw [rd_nat l i hi, w64s (by omega), drop_step l i hi]
        by_cases e : l[i] = r
        · refine ev_pos e (ev_pos (by omega) (ev_of_eq (ih (acc ++ [(i : Int)]) (by simp; omega)) ?_))
          simp [Mo.places, e]
        · refine ev_neg e (ev_of_eq (ih acc (by omega)) ?_)
          simp [Mo.places, e]
    unfold spec_RegionCells.f
    refine ev_of_eq (key 0 (by omega) [] (by simp)) ?_
    by_cases h1 : 0 ≤ r ∧ r < s
    · rw [if_pos ⟨hv, h1⟩]; simp
    · rw [if_neg (fun h => h1 h.2)]
      rw [Mo.places_none]; simp
      intro x hx e
      have := hv.2.2 x (by simpa using hx)
      omega
  · rw [if_neg (fun h => hv h.1)]
    unfold spec_RegionCells.f
    refine Ev.step (fun _ => rfl) ?_
    simp only [spec_RegionCells.l0]
    by_cases h0 : (0 : Int) < l.length
    · refine ev_pos h0 (Ev.bind (spec_RegionsValid_ev l s hl) (Ev.step (fun _ => rfl) ?_))
      simp only [spec_RegionCells.j1]
      exact ev_neg (by simpa using hv) (ev_now rfl)
    · refine ev_neg h0 (Ev.step (fun _ => rfl) ?_)
      simp only [spec_RegionCells.j1]
      exact ev_neg (by simp) (ev_now rfl)
theorem slices_Index_int_int_ev (l : List Int) (v : Int) (hl : l.length ≤ 4611686018427387904) : ∃ r, Ev (fun k => slices_Index_int_int.f k l v) r ∧ (0 ≤ r ↔ v ∈ l) := by
  have key : ∀ i, i ≤ l.length → ∃ r, Ev (fun k => slices_Index_int_int.l0 k l v (l.length : Int) (i : Int)) r ∧ (0 ≤ r ↔ v ∈ l.drop i) := by
    refine up l.length ?_ ?_
    · refine ⟨-1, Ev.step (fun _ => rfl) ?_, by simp⟩
      simp only [slices_Index_int_int.l0]
      exact ev_neg (by omega) (ev_now rfl)
    · intro i hi ih
      obtain ⟨r, hr, hr'⟩ := ih
      by_cases e : v = l[i]
      · refine ⟨(i : Int), Ev.step (fun _ => rfl) ?_, ?_⟩
        · simp only [slices_Index_int_int.l0]
          refine ev_pos (by omega) (ev_pos (by omega) (ev_pos (by omega) (ev_pos ?_ (ev_now rfl))))
          rw [rd_nat l i hi]; exact e
        · rw [drop_step l i hi]; exact ⟨fun _ => by rw [e]; exact List.mem_cons_self, fun _ => by omega⟩
      · refine ⟨r, Ev.step (fun _ => rfl) ?_, ?_⟩
        · simp only [slices_Index_int_int.l0]
          rw [rd_nat l i hi, w64s (by omega)]
          exact ev_pos (by omega) (ev_pos (by omega) (ev_pos (by omega) (ev_neg e hr)))
        · rw [drop_step l i hi, List.mem_cons, hr']
          exact ⟨fun h => .inr h, fun h => h.resolve_left e⟩
  obtain ⟨r, hr, hr'⟩ := key 0 (by omega)
  exact ⟨r, by unfold slices_Index_int_int.f; simpa using hr, by simpa using hr'⟩
theorem slices_Contains_int_int_ev (l : List Int) (v : Int) (hl : l.length ≤ 4611686018427387904) : Ev (fun k => slices_Contains_int_int.f k l v) (decide (v ∈ l)) := by
  obtain ⟨r, hr, h⟩ := slices_Index_int_int_ev l v hl
  unfold slices_Contains_int_int.f
  refine Ev.bind hr (ev_now ?_)
  rw [decide_eq_decide]; exact h
theorem impl_conn_l1 (s : Int) (cells : List Int) (hs : Mo.SizeOk s) (hc : ∀ c ∈ cells, 0 ≤ c ∧ c < 16) (hcl : cells.length ≤ 16) (i : Nat) (at_ : Int) (ha : 0 ≤ at_ ∧ at_ < 16) (F : List Int → Bool)
    (hF : ∀ r, Mo.Good cells r → Ev (fun k => impl_RegionConnected.l0 k s cells r ((i + 1 : Nat) : Int)) (F r)) (hi : i ≤ 100) :
    ∀ j, j ≤ cells.length → ∀ r, Mo.Good cells r → Ev (fun k => impl_RegionConnected.l1 k s cells r (i : Int) at_ cells (cells.length : Int) (j : Int)) (F ((cells.drop j).foldl (Mo.grow s at_) r)) := by
  have hs' := hs
  unfold Mo.SizeOk at hs'
  refine up cells.length ?_ ?_
  · intro r hr
    refine Ev.step (fun _ => rfl) ?_
    simp only [impl_RegionConnected.l1]
    rw [w64s (n := i) (by omega)]
    exact ev_neg (by omega) (by simpa using hF r hr)
  · intro j hj ih r hr
    have hcj := hc cells[j] (List.getElem_mem _)
    have hrl := hr.len
    have hin : (if cells[j] ∈ r then r else r ++ [cells[j]]) = (if cells[j] ∈ r then r else r ++ [cells[j]]) := rfl
    have part : Mo.Near s at_ cells[j] → Ev (fun k => (slices_Contains_int_int.f k r cells[j]).bind fun t => (if t = true then (impl_RegionConnected.l1 k s cells r (i : Int) at_ cells (cells.length : Int) ((j + 1 : Nat) : Int)) else (if r.length < 17592186044416 then (impl_RegionConnected.l1 k s cells (r ++ [cells[j]]) (i : Int) at_ cells (cells.length : Int) ((j + 1 : Nat) : Int)) else (none)))) (F ((cells.drop j).foldl (Mo.grow s at_) r)) := by
      intro hn
      refine Ev.bind (slices_Contains_int_int_ev r cells[j] (by omega)) ?_
      rw [drop_step cells j hj, List.foldl_cons]
      have hg := hr.grow (s := s) (a := at_) (c := cells[j]) (List.getElem_mem _)
      by_cases hm : cells[j] ∈ r
      · have e : Mo.grow s at_ r cells[j] = r := if_neg (fun h => h.2 hm)
        rw [e]
        exact ev_pos (by simpa using hm) (ih r hr)
      · have e : Mo.grow s at_ r cells[j] = r ++ [cells[j]] := if_pos ⟨hn, hm⟩
        rw [e] at hg ⊢
        exact ev_neg (by simpa using hm) (ev_pos (by omega) (ih _ hg))
    have skip : ¬ Mo.Near s at_ cells[j] → Ev (fun k => impl_RegionConnected.l1 k s cells r (i : Int) at_ cells (cells.length : Int) ((j + 1 : Nat) : Int)) (F ((cells.drop j).foldl (Mo.grow s at_) r)) := by
      intro hn
      rw [drop_step cells j hj, List.foldl_cons]
      have e : Mo.grow s at_ r cells[j] = r := if_neg (fun h => hn h.1)
      rw [e]; exact ih r hr
    have q0 : 0 ≤ Int.tdiv cells[j] s ∧ Int.tdiv cells[j] s ≤ 16 := by
      rw [Int.tdiv_eq_ediv_of_nonneg (by omega)]
      exact ⟨Int.ediv_nonneg (by omega) (by omega), Int.le_trans (Int.ediv_le_self _ (by omega)) (by omega)⟩
    have q1 : 0 ≤ Int.tdiv at_ s ∧ Int.tdiv at_ s ≤ 16 := by
      rw [Int.tdiv_eq_ediv_of_nonneg (by omega)]
      exact ⟨Int.ediv_nonneg (by omega) (by omega), Int.le_trans (Int.ediv_le_self _ (by omega)) (by omega)⟩
    refine Ev.step (fun _ => rfl) ?_
    simp only [impl_RegionConnected.l1]
    rw [rd_nat cells j hj, w64s (by omega), w64 (n := at_ + s) (by omega) (by omega), w64 (n := at_ - s) (by omega) (by omega), w64 (n := at_ + 1) (by omega) (by omega), w64 (n := at_ - 1) (by omega) (by omega), w64 (n := Int.tdiv cells[j] s) (by omega) (by omega), w64 (n := Int.tdiv at_ s) (by omega) (by omega)]
    refine ev_pos (by omega) (ev_pos (by omega) (ev_pos (by omega) ?_))
    by_cases e1 : cells[j] = at_ + s
    · exact ev_pos e1 (part (.inl (by omega)))
    · refine ev_neg e1 ?_
      by_cases e2 : cells[j] = at_ - s
      · exact ev_pos e2 (part (.inr (.inl (by omega))))
      · refine ev_neg e2 (ev_neg (by omega) ?_)
        by_cases e3 : Int.tdiv cells[j] s = Int.tdiv at_ s
        · refine ev_pos e3 ?_
          by_cases e4 : cells[j] = at_ + 1
          · exact ev_pos e4 (part (.inr (.inr ⟨by omega, e3⟩)))
          · refine ev_neg e4 ?_
            by_cases e5 : cells[j] = at_ - 1
            · exact ev_pos e5 (part (.inr (.inr ⟨by omega, e3⟩)))
            · refine ev_neg e5 (skip ?_)
              unfold Mo.Near; omega
        · refine ev_neg e3 (skip ?_)
          unfold Mo.Near
          rintro (h | h | ⟨_, h⟩)
          · omega
          · omega
          · exact e3 h
theorem impl_conn_l0 (s : Int) (cells : List Int) (hs : Mo.SizeOk s) (hc : ∀ c ∈ cells, 0 ≤ c ∧ c < 16) (hcl : cells.length ≤ 16) :
    ∀ n i : Nat, cells.length ≤ i + n → i ≤ 100 → ∀ r, Mo.Good cells r → Ev (fun k => impl_RegionConnected.l0 k s cells r (i : Int)) (decide ((Mo.bfs s cells n i r).length = cells.length)) := by
  intro n
  induction n with
  | zero =>
    intro i h1 h2 r hr
    have := hr.len
    refine Ev.step (fun _ => rfl) ?_
    simp only [impl_RegionConnected.l0]
    refine ev_neg (by omega) (ev_now ?_)
    rw [Mo.bfs, Bool.beq_eq_decide_eq, decide_eq_decide]; omega
  | succ n ih =>
    intro i h1 h2 r hr
    have := hr.len
    refine Ev.step (fun _ => rfl) ?_
    simp only [impl_RegionConnected.l0]
    by_cases h : i < r.length
    · refine ev_pos (by omega) (ev_pos (by omega) ?_)
      rw [rd_nat r i h]
      have ha := hc r[i] (hr.2 _ (List.getElem_mem _))
      have key := impl_conn_l1 s cells hs hc hcl i r[i] ha (fun r' => decide ((Mo.bfs s cells n (i + 1) r').length = cells.length)) (fun r' hr' => ih (i + 1) (by omega) (by omega) r' hr') h2 0 (by omega) r hr
      rw [Mo.bfs, dif_pos h]
      simpa using key
    · refine ev_neg (by omega) (ev_now ?_)
      rw [Mo.bfs, dif_neg h, Bool.beq_eq_decide_eq, decide_eq_decide]; omega
theorem impl_RegionConnected_ev (l : List Int) (s n : Int) (hl : l.length ≤ 4611686018427387904) :
    Ev (fun k => impl_RegionConnected.f k l s n) (Mo.conn s (if Mo.SqOk (s - 1) l s ∧ 0 ≤ n ∧ n < s then Mo.places n 0 l else [])) := by
  unfold impl_RegionConnected.f
  refine Ev.bind (impl_RegionCells_ev l s n hl) ?_
  by_cases hv : Mo.SqOk (s - 1) l s ∧ 0 ≤ n ∧ n < s
  · rw [if_pos hv]
    have h16 := hv.1.len16
    have hc : ∀ c ∈ Mo.places n 0 l, 0 ≤ c ∧ c < 16 := by
      intro c h
      obtain ⟨j, h1, h2, _⟩ := Mo.places_mem h
      omega
    have hcl := Mo.places_length n l 0
    generalize Mo.places n 0 l = cells at hc hcl
    cases cells with
    | nil => exact ev_pos rfl (ev_now rfl)
    | cons c t =>
      simp only [List.length_cons] at hcl
      refine ev_neg (by simp only [List.length_cons]; omega) (ev_pos (by simp only [List.length_cons]; omega) ?_)
      have hg : Mo.Good (c :: t) [c] := ⟨by simp, fun d hd => by simp at hd; simp [hd]⟩
      have := impl_conn_l0 s (c :: t) hv.1.1 hc (by simp; omega) (t.length + 1) 0 (by simp) (by omega) [c] hg
      simpa [Mo.conn, rd] using this
  · rw [if_neg hv]
    exact ev_pos rfl (ev_now rfl)
def Met (L : Nat) (m : List Bool) (r : List Int) : Prop := m.length = L ∧ ∀ (c : Nat), (h : c < m.length) → m[c] = decide ((c : Int) ∈ r)
theorem Met.add {L : Nat} {m : List Bool} {r : List Int} {c : Int} (h : Met L m r) (h0 : 0 ≤ c) : Met L (m.set c.toNat true) (r ++ [c]) := by
  refine ⟨by simpa using h.1, fun d hd => ?_⟩
  rw [List.getElem_set]
  split
  · rename_i e
    have : (d : Int) = c := by omega
    simp [this]
  · rename_i e
    have : ¬ (d : Int) = c := by omega
    rw [h.2 d (by simpa using hd), decide_eq_decide, List.mem_append, List.mem_singleton]
    exact ⟨fun h => .inl h, fun h => h.resolve_right this⟩
theorem Met.rd {L : Nat} {m : List Bool} {r : List Int} {c : Int} (h : Met L m r) (h0 : 0 ≤ c) (h1 : c < L) : rdOf false m c = decide (c ∈ r) := by
  obtain ⟨d, rfl⟩ := Int.eq_ofNat_of_zero_le h0
  have hd : d < m.length := by rw [h.1]; omega
  rw [rdOf_nat false m d hd]; exact h.2 d hd
theorem spec_conn_l1 (s : Int) (cells : List Int) (L : Nat) (hL : L ≤ 16) (hs : Mo.SizeOk s) (hc : ∀ c ∈ cells, 0 ≤ c ∧ c < L) (hcl : cells.length ≤ 16) (i : Nat) (at_ : Int) (ha : 0 ≤ at_ ∧ at_ < L) (F : List Int → Bool)
    (hF : ∀ m r, Mo.Good cells r → Met L m r → Ev (fun k => spec_RegionConnected.l0 k s cells m r ((i + 1 : Nat) : Int)) (F r)) (hi : i ≤ 100) :
    ∀ j, j ≤ cells.length → ∀ m r, Mo.Good cells r → Met L m r → (∃ h : i < r.length, r[i] = at_) → Ev (fun k => spec_RegionConnected.l1 k s cells m r (i : Int) (j : Int)) (F ((cells.drop j).foldl (Mo.grow s at_) r)) := by
  have hs' := hs
  unfold Mo.SizeOk at hs'
  refine up cells.length ?_ ?_
  · intro m r hr hm _
    refine Ev.step (fun _ => rfl) ?_
    simp only [spec_RegionConnected.l1]
    rw [w64s (n := i) (by omega)]
    exact ev_neg (by omega) (by simpa using hF m r hr hm)
  · intro j hj ih m r hr hm hat
    have hcj := hc cells[j] (List.getElem_mem _)
    have hrl := hr.len
    obtain ⟨hil, hie⟩ := hat
    have part : Mo.Near s at_ cells[j] → Ev (fun k => (if 0 ≤ cells[j] then (if cells[j] < (m.length : Int) then (if (rdOf false m cells[j] = true) then (spec_RegionConnected.l1 k s cells m r (i : Int) ((j + 1 : Nat) : Int)) else (if r.length < 17592186044416 then (spec_RegionConnected.l1 k s cells (m.set (cells[j] : Int).toNat true) (r ++ [cells[j]]) (i : Int) ((j + 1 : Nat) : Int)) else (none))) else (none)) else (none))) (F ((cells.drop j).foldl (Mo.grow s at_) r)) := by
      intro hn
      refine ev_pos (by omega) (ev_pos (by rw [hm.1]; omega) ?_)
      rw [hm.rd (by omega) (by omega), drop_step cells j hj, List.foldl_cons]
      have hg := hr.grow (s := s) (a := at_) (c := cells[j]) (List.getElem_mem _)
      by_cases hmm : cells[j] ∈ r
      · have e : Mo.grow s at_ r cells[j] = r := if_neg (fun h => h.2 hmm)
        rw [e]
        exact ev_pos (by simpa using hmm) (ih m r hr hm ⟨hil, hie⟩)
      · have e : Mo.grow s at_ r cells[j] = r ++ [cells[j]] := if_pos ⟨hn, hmm⟩
        rw [e] at hg ⊢
        exact ev_neg (by simpa using hmm) (ev_pos (by omega) (ih _ _ hg (hm.add (by omega)) ⟨by simp; omega, by rw [List.getElem_append_left hil]; exact hie⟩))
    have skip : ¬ Mo.Near s at_ cells[j] → Ev (fun k => spec_RegionConnected.l1 k s cells m r (i : Int) ((j + 1 : Nat) : Int)) (F ((cells.drop j).foldl (Mo.grow s at_) r)) := by
      intro hn
      rw [drop_step cells j hj, List.foldl_cons]
      have e : Mo.grow s at_ r cells[j] = r := if_neg (fun h => hn h.1)
      rw [e]; exact ih m r hr hm ⟨hil, hie⟩
    have q0 : 0 ≤ Int.tdiv cells[j] s ∧ Int.tdiv cells[j] s ≤ 16 := by
      rw [Int.tdiv_eq_ediv_of_nonneg (by omega)]
      exact ⟨Int.ediv_nonneg (by omega) (by omega), Int.le_trans (Int.ediv_le_self _ (by omega)) (by omega)⟩
    have q1 : 0 ≤ Int.tdiv at_ s ∧ Int.tdiv at_ s ≤ 16 := by
      rw [Int.tdiv_eq_ediv_of_nonneg (by omega)]
      exact ⟨Int.ediv_nonneg (by omega) (by omega), Int.le_trans (Int.ediv_le_self _ (by omega)) (by omega)⟩
    refine Ev.step (fun _ => rfl) ?_
    simp only [spec_RegionConnected.l1]
    rw [rd_nat cells j hj, rd_nat r i hil, hie, w64s (by omega), w64 (n := cells[j] - at_) (by omega) (by omega), w64 (n := -s) (by omega) (by omega), w64 (n := Int.tdiv cells[j] s) (by omega) (by omega), w64 (n := Int.tdiv at_ s) (by omega) (by omega)]
    refine ev_pos (by omega) (ev_pos (by omega) (ev_pos (by omega) (ev_pos (by omega) ?_)))
    by_cases e1 : cells[j] - at_ = s
    · exact ev_pos e1 (part (.inl e1))
    · refine ev_neg e1 ?_
      by_cases e2 : cells[j] - at_ = -s
      · exact ev_pos e2 (part (.inr (.inl e2)))
      · refine ev_neg e2 ?_
        by_cases e4 : cells[j] - at_ = 1
        · refine ev_pos e4 (ev_neg (by omega) ?_)
          by_cases e3 : Int.tdiv cells[j] s = Int.tdiv at_ s
          · exact ev_pos e3 (part (.inr (.inr ⟨.inl e4, e3⟩)))
          · refine ev_neg e3 (skip ?_)
            rintro (h | h | ⟨_, h⟩)
            · exact e1 h
            · exact e2 h
            · exact e3 h
        · refine ev_neg e4 ?_
          by_cases e5 : cells[j] - at_ = -1
          · refine ev_pos e5 (ev_neg (by omega) ?_)
            by_cases e3 : Int.tdiv cells[j] s = Int.tdiv at_ s
            · exact ev_pos e3 (part (.inr (.inr ⟨.inr e5, e3⟩)))
            · refine ev_neg e3 (skip ?_)
              rintro (h | h | ⟨_, h⟩)
              · exact e1 h
              · exact e2 h
              · exact e3 h
          · refine ev_neg e5 (skip ?_)
            rintro (h | h | ⟨h, _⟩)
            · exact e1 h
            · exact e2 h
            · exact h.elim e4 e5
theorem spec_conn_l0 (s : Int) (cells : List Int) (L : Nat) (hL : L ≤ 16) (hs : Mo.SizeOk s) (hc : ∀ c ∈ cells, 0 ≤ c ∧ c < L) (hcl : cells.length ≤ 16) :
    ∀ n i : Nat, cells.length ≤ i + n → i ≤ 100 → ∀ m r, Mo.Good cells r → Met L m r → Ev (fun k => spec_RegionConnected.l0 k s cells m r (i : Int)) (decide ((Mo.bfs s cells n i r).length = cells.length)) := by
  intro n
  induction n with
  | zero =>
    intro i h1 h2 m r hr hm
    have := hr.len
    refine Ev.step (fun _ => rfl) ?_
    simp only [spec_RegionConnected.l0]
    refine ev_neg (by omega) (ev_now ?_)
    rw [Mo.bfs, Bool.beq_eq_decide_eq, decide_eq_decide]; omega
  | succ n ih =>
    intro i h1 h2 m r hr hm
    have := hr.len
    refine Ev.step (fun _ => rfl) ?_
    simp only [spec_RegionConnected.l0]
    by_cases h : i < r.length
    · refine ev_pos (by omega) ?_
      have ha := hc r[i] (hr.2 _ (List.getElem_mem _))
      have key := spec_conn_l1 s cells L hL hs hc hcl i r[i] ha (fun r' => decide ((Mo.bfs s cells n (i + 1) r').length = cells.length)) (fun m' r' hr' hm' => ih (i + 1) (by omega) (by omega) m' r' hr' hm') h2 0 (by omega) m r hr hm ⟨h, rfl⟩
      rw [Mo.bfs, dif_pos h]
      simpa using key
    · refine ev_neg (by omega) (ev_now ?_)
      rw [Mo.bfs, dif_neg h, Bool.beq_eq_decide_eq, decide_eq_decide]; omega
theorem spec_RegionConnected_ev (l : List Int) (s n : Int) (hl : l.length ≤ 4611686018427387904) :
    Ev (fun k => spec_RegionConnected.f k l s n) (Mo.conn s (if Mo.SqOk (s - 1) l s ∧ 0 ≤ n ∧ n < s then Mo.places n 0 l else [])) := by
  unfold spec_RegionConnected.f
  refine Ev.bind (spec_RegionCells_ev l s n hl) ?_
  by_cases hv : Mo.SqOk (s - 1) l s ∧ 0 ≤ n ∧ n < s
  · rw [if_pos hv]
    have h16 := hv.1.len16
    have hc : ∀ c ∈ Mo.places n 0 l, 0 ≤ c ∧ c < l.length := by
      intro c h
      obtain ⟨j, h1, h2, _⟩ := Mo.places_mem h
      omega
    have hcl := Mo.places_length n l 0
    generalize Mo.places n 0 l = cells at hc hcl
    cases cells with
    | nil => exact ev_pos rfl (ev_now rfl)
    | cons c t =>
      simp only [List.length_cons] at hcl
      have hc0 := hc c (by simp)
      refine ev_neg (by simp only [List.length_cons]; omega) (ev_pos (by omega) (ev_pos (by omega) (ev_some ?_)))
      refine ev_pos (by simp only [List.length_cons]; omega) ?_
      have hrd : rd (c :: t) 0 = c := rfl
      rw [hrd]
      refine ev_pos hc0.1 (ev_pos (by simp; omega) ?_)
      have hg : Mo.Good (c :: t) [c] := ⟨by simp, fun d hd => by simp at hd; simp [hd]⟩
      have hm0 : Met l.length (List.replicate l.length false) [] := ⟨by simp, fun d hd => by simp⟩
      have hm : Met l.length ((List.replicate l.length false).set c.toNat true) [c] := hm0.add hc0.1
      have := spec_conn_l0 s (c :: t) l.length h16 hv.1.1 hc (by simp; omega) (t.length + 1) 0 (by simp) (by omega) _ [c] hg hm
      simpa [Mo.conn] using this
  · rw [if_neg hv]
    exact ev_pos rfl (ev_now rfl)
end XFnExactRegionConnected
open XFnExactRegionConnected
theorem FnExactRegionConnected : laws_FnExactRegionConnected.Pure := by
  intro l s n _ _ _ _ _
  refine Ev.rounds (r := true) ?_
  unfold laws_FnExactRegionConnected.f
  by_cases hl : (l.length : Int) > 1048576
  · exact ev_pos hl (ev_now rfl)
  refine ev_neg hl ?_
  have hc : Ev (fun k => laws_toIntS.f k l) l := laws_toIntS_ev l (by omega)
  have hel : Ev (fun k => laws_eqIntS.f k l l) true := by simpa using laws_eqIntS_ev l l (by omega)
  refine Ev.bind hc (Ev.bind (spec_RegionConnected_ev l s n (by omega)) (Ev.bind hc (Ev.bind (impl_RegionConnected_ev l s n (by omega)) (ev_neg (by simp) ?_))))
  exact Ev.bind hc (Ev.bind hel (ev_pos rfl (ev_now rfl)))

end Go.Proofs.Ytinockknikfmgaa.Pure
