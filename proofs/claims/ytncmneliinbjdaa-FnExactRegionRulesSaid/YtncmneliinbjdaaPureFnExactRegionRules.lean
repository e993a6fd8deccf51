/- RegionRules: the program and the reference return the same rules, leave their argument alone and share no memory, for all arguments. No conditions. -/
import Derived.Test.YtncmneliinbjdaaPRux17
import Derived.Test.YtncmneliinbjdaaMo
set_option linter.unusedSimpArgs false
set_option linter.unusedVariables false
set_option maxRecDepth 4000
namespace Go.Proofs.Ytncmneliinbjdaa.Pure
open Go.RowKit Go.Proofs.Ytncmneliinbjdaa.PRu Go.Proofs.Ytncmneliinbjdaa.Pk Go.Proofs.Ytncmneliinbjdaa.Mo Go.Proofs.YtncmneliinbjdaaW.PrintWords Go.Proofs.YtncmneliinbjdaaW.PrintLast

namespace XFnExactRegionRules
theorem laws_eqIntS_ev (a b : List Int) (ha : a.length ≤ 4611686018427387904) : Ev (fun k => laws_eqIntS.f k a b) (decide (a = b)) := by
  have key : b.length = a.length → ∀ i, i ≤ a.length → Ev (fun k => laws_eqIntS.l0 k a b (i : Int)) (decide (a.drop i = b.drop i)) := by
    intro hl
    refine up a.length ?_ ?_
    · refine Ev.step (fun _ => rfl) ?_
      simp only [laws_eqIntS.l0]
      refine ev_neg (by omega) (ev_now ?_)
      rw [List.drop_length, ← hl, List.drop_length]; simp
    · intro i hi ih
      refine Ev.step (fun _ => rfl) ?_
      simp only [laws_eqIntS.l0]
      refine ev_pos (by omega) (ev_pos (by omega) (ev_pos (by omega) ?_))
      rw [rd_nat a i hi, rd_nat b i (by omega), w64s (by omega), drop_step a i hi, drop_step b i (by omega)]
      by_cases e : a[i] = b[i]
      · refine ev_pos e (ev_of_eq ih ?_); rw [decide_eq_decide, List.cons.injEq]; exact ⟨fun h => ⟨e, h⟩, fun h => h.2⟩
      · refine ev_neg e (ev_now ?_); symm; rw [decide_eq_false_iff_not, List.cons.injEq]; exact fun h => e h.1
  unfold laws_eqIntS.f
  by_cases hl : b.length = a.length
  · exact ev_pos (by omega) (by simpa using key hl 0 (by omega))
  · refine ev_neg (by omega) (ev_now ?_)
    have : a ≠ b := fun e => hl (by rw [e])
    simp [this]
theorem laws_toIntS_ev (a : List Int) (ha : a.length ≤ 35184372088832) : Ev (fun k => laws_toIntS.f k a) a := by
  have key : ∀ i, i ≤ a.length → Ev (fun k => laws_toIntS.l0 k a (a.take i ++ List.replicate (a.length - i) 0) (i : Int)) a := by
    refine up a.length ?_ ?_
    · refine Ev.step (fun _ => rfl) ?_
      simp only [laws_toIntS.l0]
      refine ev_neg (by omega) (ev_now ?_)
      simp
    · intro i hi ih
      refine Ev.step (fun _ => rfl) ?_
      simp only [laws_toIntS.l0]
      refine ev_pos (by omega) (ev_pos (by omega) (ev_pos (by simp; omega) ?_))
      rw [rd_nat a i hi, w64s (by omega)]
      have e : (a.take i ++ List.replicate (a.length - i) 0).set ((i : Int)).toNat a[i] = a.take (i + 1) ++ List.replicate (a.length - (i + 1)) 0 := by
        rw [Int.toNat_natCast, List.set_append_right _ _ (by simp; omega)]
        have h1 : i - (a.take i).length = 0 := by simp; omega
        rw [h1]
        obtain ⟨m, hm⟩ : ∃ m, a.length - i = m + 1 := ⟨a.length - i - 1, by omega⟩
        have h2 : a.length - (i + 1) = m := by omega
        rw [hm, List.replicate_succ, List.set_cons_zero, List.take_succ_eq_append_getElem hi, h2, List.append_assoc]; rfl
      rw [e]; exact ih
  unfold laws_toIntS.f
  refine ev_pos (by omega) (ev_pos (by omega) ?_)
  have := key 0 (by omega)
  simpa using this
theorem impl_sizeOk_eq (s : Int) : impl_sizeOk.f s = some (decide (Mo.SizeOk s)) := by
  unfold impl_sizeOk.f Mo.SizeOk
  by_cases h : s ≥ 2
  · rw [if_pos h]; simp [show (2 : Int) ≤ s from h]
  · rw [if_neg h]; simp [show ¬ (2 : Int) ≤ s from h]
theorem spec_l1In_eq (n lo hi : Int) : spec_l1In.f n lo hi = some (decide (lo ≤ n ∧ n ≤ hi)) := by
  unfold spec_l1In.f
  by_cases h : n ≥ lo
  · rw [if_pos h]; simp [show lo ≤ n from h]
  · rw [if_neg h]; simp [show ¬ lo ≤ n from h]
theorem impl_RegionsValid_ev (l : List Int) (s : Int) (hl : l.length ≤ 4611686018427387904) : Ev (fun k => impl_RegionsValid.f k l s) (decide (Mo.SqOk (s - 1) l s)) := by
  have key : ∀ i, i ≤ l.length → Ev (fun k => impl_RegionsValid.l0 k s l (l.length : Int) (i : Int)) (decide (Mo.AllIn 0 (s - 1) (l.drop i))) := by
    refine up l.length ?_ ?_
    · refine Ev.step (fun _ => rfl) ?_
      simp only [impl_RegionsValid.l0]
      refine ev_neg (by omega) (ev_now ?_)
      simp [Mo.AllIn.nil]
    · intro i hi ih
      refine Ev.step (fun _ => rfl) ?_
      simp only [impl_RegionsValid.l0]
      refine ev_pos (by omega) (ev_pos (by omega) (ev_pos (by omega) ?_))
      rw [rd_nat l i hi, w64s (by omega), drop_step l i hi]
      by_cases e : l[i] < 0
      · refine ev_pos e (ev_now ?_)
        symm; rw [decide_eq_false_iff_not, Mo.AllIn.cons]; omega
      · refine ev_neg e ?_
        by_cases e' : l[i] ≥ s
        · refine ev_pos e' (ev_now ?_)
          symm; rw [decide_eq_false_iff_not, Mo.AllIn.cons]; omega
        · refine ev_neg e' (ev_of_eq ih ?_)
          rw [decide_eq_decide, Mo.AllIn.cons]
          exact ⟨fun h => ⟨by omega, h⟩, fun h => h.2⟩
  unfold impl_RegionsValid.f
  refine ev_bindc (impl_sizeOk_eq s) ?_
  by_cases hs : Mo.SizeOk s
  · have hs' := hs
    unfold Mo.SizeOk at hs'
    refine ev_pos (by simpa using hs) (Ev.step (fun _ => rfl) ?_)
    simp only [impl_RegionsValid.j0]
    have hw : wrap64 (s * s) = s * s := by rcases hs.cases with rfl | rfl | rfl <;> exact w64 (by decide) (by decide)
    rw [hw]
    by_cases hn : (l.length : Int) = s * s
    · refine ev_neg (by simp [hn]) (ev_of_eq (key 0 (by omega)) ?_)
      rw [decide_eq_decide]
      exact ⟨fun h => ⟨hs, hn, by simpa using h⟩, fun h => by simpa using h.2.2⟩
    · refine ev_pos (by simp [hn]) (ev_now ?_)
      symm; rw [decide_eq_false_iff_not]; exact fun h => hn h.2.1
  · refine ev_neg (by simpa using hs) (Ev.step (fun _ => rfl) ?_)
    simp only [impl_RegionsValid.j0]
    refine ev_pos trivial (ev_now ?_)
    symm; rw [decide_eq_false_iff_not]; exact fun h => hs h.1
theorem spec_RegionsValid_ev (l : List Int) (s : Int) (hl : l.length ≤ 4611686018427387904) : Ev (fun k => spec_RegionsValid.f k l s) (decide (Mo.SqOk (s - 1) l s)) := by
  by_cases hs : Mo.SizeOk s
  · have hs' := hs
    unfold Mo.SizeOk at hs'
    have hw : wrap64 (s * s) = s * s := by rcases hs.cases with rfl | rfl | rfl <;> exact w64 (by decide) (by decide)
    have hw1 : wrap64 (s - 1) = s - 1 := w64 (by omega) (by omega)
    have key : ∀ i, i ≤ l.length → Ev (fun k => spec_RegionsValid.l0 k l s (i : Int)) (decide ((l.length : Int) = s * s ∧ Mo.AllIn 0 (s - 1) (l.drop i))) := by
      refine up l.length ?_ ?_
      · refine Ev.step (fun _ => rfl) ?_
        simp only [spec_RegionsValid.l0]
        refine ev_neg (by omega) (ev_bindc (spec_l1In_eq _ _ _) (ev_pos (by simpa using hs') (ev_now ?_)))
        simp [Mo.AllIn.nil, hw]
        exact (Bool.beq_eq_decide_eq _ _)
      · intro i hi ih
        refine Ev.step (fun _ => rfl) ?_
        simp only [spec_RegionsValid.l0]
        refine ev_pos (by omega) (ev_pos (by omega) (ev_bindc (spec_l1In_eq _ _ _) ?_))
        rw [rd_nat l i hi, w64s (by omega), drop_step l i hi, hw1]
        by_cases e : 0 ≤ l[i] ∧ l[i] ≤ s - 1
        · refine ev_pos (by simpa using e) (ev_of_eq ih ?_)
          rw [decide_eq_decide, Mo.AllIn.cons]
          exact ⟨fun h => ⟨h.1, e, h.2⟩, fun h => ⟨h.1, h.2.2⟩⟩
        · refine ev_neg (by simpa using e) (ev_now ?_)
          symm; rw [decide_eq_false_iff_not, Mo.AllIn.cons]; exact fun h => e h.2.1
    unfold spec_RegionsValid.f
    refine ev_of_eq (key 0 (by omega)) ?_
    rw [decide_eq_decide]
    exact ⟨fun h => ⟨hs, by simpa using h⟩, fun h => by simpa using h.2⟩
  · have key : ∀ i, i ≤ l.length → Ev (fun k => spec_RegionsValid.l0 k l s (i : Int)) false := by
      refine up l.length ?_ ?_
      · refine Ev.step (fun _ => rfl) ?_
        simp only [spec_RegionsValid.l0]
        exact ev_neg (by omega) (ev_bindc (spec_l1In_eq _ _ _) (ev_neg (by simpa [Mo.SizeOk] using hs) (ev_now rfl)))
      · intro i hi ih
        refine Ev.step (fun _ => rfl) ?_
        simp only [spec_RegionsValid.l0]
        refine ev_pos (by omega) (ev_pos (by omega) (ev_bindc (spec_l1In_eq _ _ _) ?_))
        rw [w64s (by omega)]
        by_cases e : decide (0 ≤ rd l (i : Int) ∧ rd l (i : Int) ≤ wrap64 (s - 1)) = true
        · exact ev_pos e ih
        · exact ev_neg e (ev_now rfl)
    unfold spec_RegionsValid.f
    refine ev_of_eq (key 0 (by omega)) ?_
    symm; rw [decide_eq_false_iff_not]; exact fun h => hs h.1
theorem impl_RegionCells_ev (l : List Int) (s r : Int) (hl : l.length ≤ 4611686018427387904) : Ev (fun k => impl_RegionCells.f k l s r) (if Mo.SqOk (s - 1) l s ∧ 0 ≤ r ∧ r < s then Mo.places r 0 l else []) := by
  unfold impl_RegionCells.f
  refine Ev.bind (impl_RegionsValid_ev l s hl) ?_
  by_cases hv : Mo.SqOk (s - 1) l s
  · have h16 := hv.len16
    have key : ∀ i, i ≤ l.length → ∀ acc : List Int, acc.length ≤ i → Ev (fun k => impl_RegionCells.l0 k r acc l (l.length : Int) (i : Int)) (acc ++ Mo.places r i (l.drop i)) := by
      refine up l.length ?_ ?_
      · intro acc ha
        refine Ev.step (fun _ => rfl) ?_
        simp only [impl_RegionCells.l0]
        refine ev_neg (by omega) (ev_now ?_)
        simp [Mo.places]
      · intro i hi ih acc ha
        refine Ev.step (fun _ => rfl) ?_
        simp only [impl_RegionCells.l0]
        refine ev_pos (by omega) (ev_pos (by omega) (ev_pos (by omega) ?_))
        rw [rd_nat l i hi, w64s (by omega), drop_step l i hi]
        by_cases e : l[i] = r
        · refine ev_pos e (ev_pos (by omega) (ev_of_eq (ih (acc ++ [(i : Int)]) (by simp; omega)) ?_))
          simp [Mo.places, e]
        · refine ev_neg e (ev_of_eq (ih acc (by omega)) ?_)
          simp [Mo.places, e]
    refine ev_pos (by simpa using hv) ?_
    by_cases h0 : r < 0
    · refine ev_pos h0 (Ev.step (fun _ => rfl) ?_)
      simp only [impl_RegionCells.j0]
      refine ev_pos trivial (ev_now ?_)
      rw [if_neg (by omega)]
    · refine ev_neg h0 (Ev.step (fun _ => rfl) ?_)
      simp only [impl_RegionCells.j0]
      by_cases h1 : r < s
      · refine ev_neg (by simp; omega) (ev_of_eq (key 0 (by omega) [] (by simp)) ?_)
        rw [if_pos ⟨hv, by omega, h1⟩]; simp
      · refine ev_pos (by simp; omega) (ev_now ?_)
        rw [if_neg (by omega)]
  · refine ev_neg (by simpa using hv) (Ev.step (fun _ => rfl) ?_)
    simp only [impl_RegionCells.j0]
    refine ev_pos trivial (ev_now ?_)
    rw [if_neg (fun h => hv h.1)]
theorem spec_RegionCells_ev (l : List Int) (s r : Int) (hl : l.length ≤ 4611686018427387904) : Ev (fun k => spec_RegionCells.f k l s r) (if Mo.SqOk (s - 1) l s ∧ 0 ≤ r ∧ r < s then Mo.places r 0 l else []) := by
  by_cases hv : Mo.SqOk (s - 1) l s
  · have h16 := hv.len16
    have key : ∀ i, i ≤ l.length → ∀ acc : List Int, acc.length ≤ i → Ev (fun k => spec_RegionCells.l0 k l s r acc (i : Int)) (acc ++ Mo.places r i (l.drop i)) := by
      refine up l.length ?_ ?_
      · intro acc ha
        refine Ev.step (fun _ => rfl) ?_
        simp only [spec_RegionCells.l0]
        refine ev_neg (by omega) (Ev.step (fun _ => rfl) ?_)
        simp only [spec_RegionCells.j1]
        refine ev_neg (by simp) (ev_now ?_)
        simp [Mo.places]
      · intro i hi ih acc ha
        refine Ev.step (fun _ => rfl) ?_
        simp only [spec_RegionCells.l0]
        refine ev_pos (by omega) (Ev.bind (spec_RegionsValid_ev l s hl) (Ev.step (fun _ => rfl) ?_))
        simp only [spec_RegionCells.j1]
        refine ev_pos (by simpa using hv) (ev_pos (by omega) (ev_pos (by omega) ?_))
        rw [rd_nat l i hi, w64s (by omega), drop_step l i hi]
        by_cases e : l[i] = r
        · refine ev_pos e (ev_pos (by omega) (ev_of_eq (ih (acc ++ [(i : Int)]) (by simp; omega)) ?_))
          simp [Mo.places, e]
        · refine ev_neg e (ev_of_eq (ih acc (by omega)) ?_)
          simp [Mo.places, e]
    unfold spec_RegionCells.f
    refine ev_of_eq (key 0 (by omega) [] (by simp)) ?_
    by_cases h1 : 0 ≤ r ∧ r < s
    · rw [if_pos ⟨hv, h1⟩]; simp
    · rw [if_neg (fun h => h1 h.2)]
      rw [Mo.places_none]; simp
      intro x hx e
      have := hv.2.2 x (by simpa using hx)
      omega
  · rw [if_neg (fun h => hv h.1)]
    unfold spec_RegionCells.f
    refine Ev.step (fun _ => rfl) ?_
    simp only [spec_RegionCells.l0]
    by_cases h0 : (0 : Int) < l.length
    · refine ev_pos h0 (Ev.bind (spec_RegionsValid_ev l s hl) (Ev.step (fun _ => rfl) ?_))
      simp only [spec_RegionCells.j1]
      exact ev_neg (by simpa using hv) (ev_now rfl)
    · refine ev_neg h0 (Ev.step (fun _ => rfl) ?_)
      simp only [spec_RegionCells.j1]
      exact ev_neg (by simp) (ev_now rfl)
theorem laws_markIntS_ev (l : List Int) (m : Int) (h0 : 0 ≤ m) (hm : m + l.length ≤ 4611686018427387904) : Ev (fun k => laws_markIntS.f k l m) (m + l.length, Mo.marks m l.length) := by
  have key : ∀ i, i ≤ l.length → Ev (fun k => laws_markIntS.l0 k (Mo.marks m i ++ l.drop i) (m + i) (i : Int)) (m + l.length, Mo.marks m l.length) := by
    refine up l.length ?_ ?_
    · refine Ev.step (fun _ => rfl) ?_
      simp only [laws_markIntS.l0]
      exact ev_neg (by simp) (ev_now (by simp))
    · intro i hi ih
      refine Ev.step (fun _ => rfl) ?_
      simp only [laws_markIntS.l0]
      refine ev_pos (by simp; omega) (ev_pos (by omega) ?_)
      rw [w64s (by omega), w64 (n := m + i + 1) (by omega) (by omega)]
      have e : (Mo.marks m i ++ l.drop i).set ((i : Int)).toNat (m + i) = Mo.marks m (i + 1) ++ l.drop (i + 1) := by
        rw [Int.toNat_natCast, List.set_append_right _ _ (by simp), Mo.marks_length, Nat.sub_self, drop_step l i hi, List.set_cons_zero, Mo.marks_succ, List.append_assoc]; rfl
      rw [e, show m + (i : Int) + 1 = m + ((i + 1 : Nat) : Int) by omega]
      exact ih
  unfold laws_markIntS.f
  simpa [Mo.marks] using key 0 (by omega)
theorem laws_heldIntS_ev (m : Int) (n : Nat) (h0 : 0 ≤ m) (hm : m + n ≤ 4611686018427387904) : Ev (fun k => laws_heldIntS.f k (Mo.marks m n) m) (m + n) := by
  have key : ∀ i, i ≤ n → Ev (fun k => laws_heldIntS.l0 k (Mo.marks m n) (m + i) (i : Int)) (m + n) := by
    refine up n ?_ ?_
    · refine Ev.step (fun _ => rfl) ?_
      simp only [laws_heldIntS.l0]
      exact ev_neg (by simp) (ev_now rfl)
    · intro i hi ih
      refine Ev.step (fun _ => rfl) ?_
      simp only [laws_heldIntS.l0]
      refine ev_pos (by simp; omega) (ev_pos (by omega) (ev_pos ?_ ?_))
      · rw [rd_nat _ i (by simp; omega)]; simp [Mo.marks]
      · rw [w64s (by omega), w64 (n := m + i + 1) (by omega) (by omega), show m + (i : Int) + 1 = m + ((i + 1 : Nat) : Int) by omega]
        exact ih
  unfold laws_heldIntS.f
  simpa using key 0 (by omega)
/-- The rules of the regions from n on, r regions; none and false if one has too many cells. -/
def regRules (l : List Int) : Nat → Int → List S61 → List S61 × Bool
  | 0, _, acc => (acc, true)
  | r + 1, n, acc => if (Mo.places n 0 l).length > 4 then ([], false) else if (Mo.places n 0 l).length ≥ 2 then regRules l r (n + 1) (acc ++ [⟨1, Mo.places n 0 l, 0⟩]) else regRules l r (n + 1) acc
theorem regRules_facts (l : List Int) (P : S61 → Prop) : ∀ (r : Nat) (n : Int) (acc : List S61), (∀ x ∈ acc, P x) → (∀ m : Int, n ≤ m → m < n + r → 2 ≤ (Mo.places m 0 l).length → (Mo.places m 0 l).length ≤ 4 → P ⟨1, Mo.places m 0 l, 0⟩) →
    (∀ x ∈ (regRules l r n acc).1, P x) ∧ (regRules l r n acc).1.length ≤ acc.length + r ∧ ((regRules l r n acc).2 = false → (regRules l r n acc).1 = [])
  | 0, n, acc, h, _ => ⟨h, Nat.le_refl _, fun h => by cases h⟩
  | r + 1, n, acc, h, hp => by
    unfold regRules
    by_cases h4 : (Mo.places n 0 l).length > 4
    · rw [if_pos h4]; exact ⟨fun x hx => (by cases hx), Nat.zero_le _, fun _ => rfl⟩
    · rw [if_neg h4]
      by_cases h2 : (Mo.places n 0 l).length ≥ 2
      · rw [if_pos h2]
        obtain ⟨a, b, c⟩ := regRules_facts l P r (n + 1) (acc ++ [⟨1, Mo.places n 0 l, 0⟩]) (fun x hx => by
          rcases List.mem_append.1 hx with hx | hx
          · exact h x hx
          · simp at hx; rw [hx]; exact hp n (by omega) (by omega) h2 (by omega)) (fun m h1 h2 => hp m (by omega) (by omega))
        exact ⟨a, by simp at b; omega, c⟩
      · rw [if_neg h2]
        obtain ⟨a, b, c⟩ := regRules_facts l P r (n + 1) acc h (fun m h1 h2 => hp m (by omega) (by omega))
        exact ⟨a, by omega, c⟩
theorem impl_RegionRules_ev (l : List Int) (s : Int) (hl : l.length ≤ 4611686018427387904) : Ev (fun k => impl_RegionRules.f k l s) (if Mo.SqOk (s - 1) l s then regRules l s.toNat 0 [] else ([], false)) := by
  unfold impl_RegionRules.f
  refine Ev.bind (impl_RegionsValid_ev l s hl) ?_
  by_cases hv : Mo.SqOk (s - 1) l s
  · rw [if_pos hv]
    refine ev_pos (by simpa using hv) ?_
    have hs := hv.1
    unfold Mo.SizeOk at hs
    have key : ∀ i, i ≤ s.toNat → ∀ acc : List S61, acc.length ≤ i → Ev (fun k => impl_RegionRules.l0 k l s acc s (i : Int)) (regRules l (s.toNat - i) (i : Int) acc) := by
      refine up s.toNat ?_ ?_
      · intro acc _
        refine Ev.step (fun _ => rfl) ?_
        simp only [impl_RegionRules.l0]
        refine ev_neg (by omega) (ev_now ?_)
        rw [Nat.sub_self]; rfl
      · intro i hi ih acc ha
        obtain ⟨r, hr⟩ : ∃ r, s.toNat - i = r + 1 := ⟨s.toNat - i - 1, by omega⟩
        have hr' : s.toNat - (i + 1) = r := by omega
        rw [hr'] at ih
        refine Ev.step (fun _ => rfl) ?_
        simp only [impl_RegionRules.l0]
        rw [hr, regRules, w64s (by omega)]
        refine ev_pos (by omega) (Ev.bind (impl_RegionCells_ev l s (i : Int) hl) ?_)
        rw [if_pos ⟨hv, by omega, by omega⟩]
        by_cases h4 : (Mo.places (i : Int) 0 l).length > 4
        · rw [if_pos h4]; exact ev_pos (by omega) (ev_now rfl)
        · rw [if_neg h4]
          refine ev_neg (by omega) ?_
          by_cases h2 : (Mo.places (i : Int) 0 l).length ≥ 2
          · rw [if_pos h2]
            exact ev_pos (by omega) (ev_pos (by omega) (ih _ (by simp; omega)))
          · rw [if_neg h2]
            exact ev_neg (by omega) (ih _ (by omega))
    simpa using key 0 (by omega) [] (by simp)
  · rw [if_neg hv]
    exact ev_neg (by simpa using hv) (ev_now rfl)
theorem spec_RegionRules_ev (l : List Int) (s : Int) (hl : l.length ≤ 4611686018427387904) : Ev (fun k => spec_RegionRules.f k l s) (if Mo.SqOk (s - 1) l s then regRules l s.toNat 0 [] else ([], false)) := by
  unfold spec_RegionRules.f
  refine ev_some (Ev.bind (spec_RegionsValid_ev l s hl) ?_)
  by_cases hv : Mo.SqOk (s - 1) l s
  · rw [if_pos hv]
    refine ev_pos (by simpa using hv) ?_
    have hs := hv.1
    unfold Mo.SizeOk at hs
    have key : ∀ i, i ≤ s.toNat → ∀ acc : List S61, acc.length ≤ i → Ev (fun k => spec_RegionRules.l0 k l s acc (i : Int)) (regRules l (s.toNat - i) (i : Int) acc) := by
      refine up s.toNat ?_ ?_
      · intro acc _
        refine Ev.step (fun _ => rfl) ?_
        simp only [spec_RegionRules.l0]
        refine ev_neg (by omega) (ev_now ?_)
        rw [Nat.sub_self]; rfl
      · intro i hi ih acc ha
        obtain ⟨r, hr⟩ : ∃ r, s.toNat - i = r + 1 := ⟨s.toNat - i - 1, by omega⟩
        have hr' : s.toNat - (i + 1) = r := by omega
        rw [hr'] at ih
        refine Ev.step (fun _ => rfl) ?_
        simp only [spec_RegionRules.l0]
        rw [hr, regRules, w64s (by omega)]
        refine ev_pos (by omega) (Ev.bind (spec_RegionCells_ev l s (i : Int) hl) ?_)
        rw [if_pos ⟨hv, by omega, by omega⟩]
        by_cases h4 : (Mo.places (i : Int) 0 l).length > 4
        · rw [if_pos h4]; exact ev_pos (by omega) (ev_now rfl)
        · rw [if_neg h4]
          refine ev_neg (by omega) ?_
          by_cases h2 : (Mo.places (i : Int) 0 l).length ≥ 2
          · rw [if_pos h2]
            exact ev_pos (by omega) (ev_pos (by omega) (ih _ (by simp; omega)))
          · rw [if_neg h2]
            exact ev_neg (by omega) (ih _ (by omega))
    simpa using key 0 (by omega) [] (by simp)
  · rw [if_neg hv]
    exact ev_neg (by simpa using hv) (ev_now rfl)
theorem laws_eqRule_refl (a b : Int) (l : List Int) (hl : l.length ≤ 1048576) : Ev (fun k => laws_eqRule.f k a l b a l b) true := by
  unfold laws_eqRule.f
  have h : Ev (fun k => laws_eqIntS.f k l l) true := by simpa using laws_eqIntS_ev l l (by omega)
  exact ev_pos rfl (Ev.bind h (ev_pos rfl (ev_pos rfl (ev_now rfl))))
theorem laws_eqRuleS_refl (xs : List S61) (hl : xs.length ≤ 1048576) (hx : ∀ x ∈ xs, x.f1.length ≤ 1048576) : Ev (fun k => laws_eqRuleS.f k xs xs) true := by
  have key : ∀ i, i ≤ xs.length → Ev (fun k => laws_eqRuleS.l0 k xs xs (i : Int)) true := by
    refine up xs.length ?_ ?_
    · refine Ev.step (fun _ => rfl) ?_
      simp only [laws_eqRuleS.l0]
      exact ev_neg (by omega) (ev_now rfl)
    · intro i hi ih
      refine Ev.step (fun _ => rfl) ?_
      simp only [laws_eqRuleS.l0]
      have e : rd_T61 xs (i : Int) = xs[i] := by
        unfold rd_T61
        rw [Int.toNat_natCast, List.getD_eq_getElem?_getD, List.getElem?_eq_getElem hi]; rfl
      rw [e, w64s (by omega)]
      exact ev_pos (by omega) (ev_pos (by omega) (ev_pos (by omega) (Ev.bind (laws_eqRule_refl _ _ _ (hx _ (List.getElem_mem hi))) (ev_pos rfl ih))))
  unfold laws_eqRuleS.f
  exact ev_pos rfl (by simpa using key 0 (by omega))
/-- The marked rules, and the next number. -/
def rmk : Int → List S61 → Int × List S61
  | m, [] => (m, [])
  | m, x :: xs => ((rmk (m + 1 + x.f1.length + 1) xs).1, ⟨m, Mo.marks (m + 1) x.f1.length, m + 1 + x.f1.length⟩ :: (rmk (m + 1 + x.f1.length + 1) xs).2)
theorem rmk_le : ∀ (xs : List S61) (m : Int), m ≤ (rmk m xs).1
  | [], m => Int.le_refl m
  | x :: xs, m => by
    have := rmk_le xs (m + 1 + x.f1.length + 1)
    simp only [rmk]; omega
theorem rd_mid (a : List S61) (x : S61) (b : List S61) : rd_T61 (a ++ x :: b) (a.length : Int) = x := by
  unfold rd_T61
  rw [Int.toNat_natCast]; simp
theorem laws_markRuleS_go : ∀ (b a : List S61) (m : Int), 0 ≤ m → m + 2097152 * b.length ≤ 2305843009213693952 → a.length + b.length ≤ 1048576 → (∀ x ∈ b, x.f1.length ≤ 1048576) →
    Ev (fun k => laws_markRuleS.l0 k (a ++ b) m (a.length : Int)) ((rmk m b).1, a ++ (rmk m b).2)
  | [], a, m, _, _, _, _ => by
    refine Ev.step (fun _ => rfl) ?_
    simp only [laws_markRuleS.l0]
    exact ev_neg (by simp) (ev_now (by simp [rmk]))
  | x :: b, a, m, h0, h1, h2, h3 => by
    have hx := h3 x (by simp)
    simp only [List.length_cons] at h1 h2
    refine Ev.step (fun _ => rfl) ?_
    simp only [laws_markRuleS.l0]
    rw [rd_mid, w64 (n := m + 1) (by omega) (by omega), w64s (n := a.length) (by omega)]
    refine ev_pos (by simp; omega) (ev_pos (by omega) (Ev.bind (laws_markIntS_ev x.f1 (m + 1) (by omega) (by omega)) ?_))
    have ih := laws_markRuleS_go b (a ++ [⟨m, Mo.marks (m + 1) x.f1.length, m + 1 + x.f1.length⟩]) (m + 1 + x.f1.length + 1) (by omega) (by omega) (by simp; omega) (fun y hy => h3 y (by simp [hy]))
    have e : (a ++ x :: b).set ((a.length : Int)).toNat ⟨m, Mo.marks (m + 1) x.f1.length, m + 1 + x.f1.length⟩ = (a ++ [⟨m, Mo.marks (m + 1) x.f1.length, m + 1 + x.f1.length⟩]) ++ b := by
      rw [Int.toNat_natCast, List.set_append_right _ _ (Nat.le_refl _), Nat.sub_self, List.set_cons_zero, List.append_assoc]; rfl
    show Ev (fun k => laws_markRuleS.l0 k ((a ++ x :: b).set ((a.length : Int)).toNat ⟨m, Mo.marks (m + 1) x.f1.length, m + 1 + x.f1.length⟩) (wrap64 (m + 1 + x.f1.length + 1)) _) _
    rw [e, w64 (n := m + 1 + x.f1.length + 1) (by omega) (by omega)]
    simp only [rmk]
    have e2 : ((a.length : Int) + 1) = ((a ++ [(⟨m, Mo.marks (m + 1) x.f1.length, m + 1 + x.f1.length⟩ : S61)]).length : Int) := by simp
    first
      | rw [e2]
      | rw [show ((a.length + 1 : Nat) : Int) = ((a ++ [(⟨m, Mo.marks (m + 1) x.f1.length, m + 1 + x.f1.length⟩ : S61)]).length : Int) by simp]
    simpa using ih
theorem laws_markRuleS_ev (xs : List S61) (hl : xs.length ≤ 1048576) (hx : ∀ x ∈ xs, x.f1.length ≤ 1048576) : Ev (fun k => laws_markRuleS.f k xs 1) ((rmk 1 xs).1, (rmk 1 xs).2) := by
  unfold laws_markRuleS.f
  simpa using laws_markRuleS_go xs [] 1 (by omega) (by omega) (by simpa using hl) hx
theorem laws_heldRuleS_go : ∀ (b a : List S61) (m : Int), 0 ≤ m → m + 2097152 * b.length ≤ 2305843009213693952 → a.length + b.length ≤ 1048576 → (∀ x ∈ b, x.f1.length ≤ 1048576) →
    Ev (fun k => laws_heldRuleS.l0 k (a ++ (rmk m b).2) m (a.length : Int)) (rmk m b).1
  | [], a, m, _, _, _, _ => by
    refine Ev.step (fun _ => rfl) ?_
    simp only [laws_heldRuleS.l0]
    exact ev_neg (by simp [rmk]) (ev_now (by simp [rmk]))
  | x :: b, a, m, h0, h1, h2, h3 => by
    have hx := h3 x (by simp)
    simp only [List.length_cons] at h1 h2
    have hy : (rmk m (x :: b)).2 = ⟨m, Mo.marks (m + 1) x.f1.length, m + 1 + x.f1.length⟩ :: (rmk (m + 1 + x.f1.length + 1) b).2 := rfl
    have hy1 : (rmk m (x :: b)).1 = (rmk (m + 1 + x.f1.length + 1) b).1 := rfl
    rw [hy, hy1]
    refine Ev.step (fun _ => rfl) ?_
    simp only [laws_heldRuleS.l0, rd_mid]
    rw [w64 (n := m + 1) (by omega) (by omega), w64s (n := a.length) (by omega)]
    refine ev_pos (by simp; omega) (ev_pos (by omega) (ev_pos (by first | rfl | trivial) (Ev.bind (laws_heldIntS_ev (m + 1) x.f1.length (by omega) (by omega)) (ev_neg (by omega) (ev_pos (by first | rfl | trivial) ?_)))))
    have ih := laws_heldRuleS_go b (a ++ [⟨m, Mo.marks (m + 1) x.f1.length, m + 1 + x.f1.length⟩]) (m + 1 + x.f1.length + 1) (by omega) (by omega) (by simp; omega) (fun y hy => h3 y (by simp [hy]))
    rw [w64 (n := m + 1 + x.f1.length + 1) (by omega) (by omega)]
    simpa using ih
theorem laws_heldRuleS_ev (xs : List S61) (hl : xs.length ≤ 1048576) (hx : ∀ x ∈ xs, x.f1.length ≤ 1048576) : Ev (fun k => laws_heldRuleS.f k (rmk 1 xs).2 1) (rmk 1 xs).1 := by
  unfold laws_heldRuleS.f
  simpa using laws_heldRuleS_go xs [] 1 (by omega) (by omega) (by simpa using hl) hx
end XFnExactRegionRules
open XFnExactRegionRules
theorem FnExactRegionRules : laws_FnExactRegionRules.Pure := by
  intro l s _ _ _ _
  refine Ev.rounds (r := true) ?_
  unfold laws_FnExactRegionRules.f
  by_cases hl : (l.length : Int) > 1048576
  · exact ev_pos hl (ev_now rfl)
  refine ev_neg hl ?_
  have hR : (if Mo.SqOk (s - 1) l s then regRules l s.toNat 0 [] else ([], false)).1.length ≤ 1048576 ∧ ∀ x ∈ (if Mo.SqOk (s - 1) l s then regRules l s.toNat 0 [] else ([], false)).1, x.f1.length ≤ 1048576 := by
    by_cases hv : Mo.SqOk (s - 1) l s
    · rw [if_pos hv]
      have hs := hv.1
      unfold Mo.SizeOk at hs
      have f := regRules_facts l (fun x => x.f1.length ≤ 4) s.toNat 0 [] (fun x hx => by cases hx) (fun m _ _ _ h => h)
      have f2 := f.2.1
      simp only [List.length_nil] at f2
      exact ⟨by omega, fun x hx => by have := f.1 x hx; omega⟩
    · rw [if_neg hv]
      exact ⟨by simp, fun x hx => by cases hx⟩
  have hi := impl_RegionRules_ev l s (by omega)
  have hs := spec_RegionRules_ev l s (by omega)
  generalize (if Mo.SqOk (s - 1) l s then regRules l s.toNat 0 [] else ([], false)) = R at hR hi hs
  obtain ⟨xs, ok⟩ := R
  obtain ⟨h1, h2⟩ := hR
  have hc : Ev (fun k => laws_toIntS.f k l) l := laws_toIntS_ev l (by omega)
  have heR := laws_eqRuleS_refl xs h1 h2
  have hel : Ev (fun k => laws_eqIntS.f k l l) true := by simpa using laws_eqIntS_ev l l (by omega)
  have hm := laws_markRuleS_ev xs h1 h2
  have hh := laws_heldRuleS_ev xs h1 h2
  have hr := rmk_le xs 1
  refine Ev.bind hc (Ev.bind hs (Ev.bind hc (Ev.bind hi (Ev.bind heR (ev_pos rfl (Ev.step (fun _ => rfl) ?_))))))
  simp only [laws_FnExactRegionRules.j0]
  refine ev_neg (by simp) (Ev.bind hc (Ev.bind hel (ev_pos rfl ?_)))
  refine Ev.bind (laws_markIntS_ev l 1 (by omega) (by omega)) (ev_neg (by simp; omega) ?_)
  refine Ev.bind heR (ev_pos rfl (Ev.step (fun _ => rfl) ?_))
  simp only [laws_FnExactRegionRules.j1]
  refine ev_neg (by simp) (Ev.bind hm (Ev.bind hh (ev_neg (by omega) (ev_pos rfl ?_))))
  refine Ev.bind hc (Ev.bind hi (Ev.bind heR (ev_pos rfl (Ev.step (fun _ => rfl) ?_))))
  simp only [laws_FnExactRegionRules.j2]
  exact ev_neg (by simp) (Ev.bind hh (ev_neg (by omega) (ev_pos rfl (ev_now rfl))))

end Go.Proofs.Ytncmneliinbjdaa.Pure
