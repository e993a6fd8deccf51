/- RegionsValid: the program and the reference return the same and leave their argument alone, for all arguments. No conditions. -/
import Derived.Test.YtinockknikfmgaaPFnExactRegionsValidx1
import Derived.Test.YtinockknikfmgaaMo
set_option linter.unusedSimpArgs false
set_option linter.unusedVariables false
set_option maxRecDepth 4000
namespace Go.Proofs.Ytinockknikfmgaa.Pure
open Go.RowKit Go.Proofs.Ytinockknikfmgaa.PFnExactRegionsValid Go.Proofs.Ytinockknikfmgaa.Pk Go.Proofs.Ytinockknikfmgaa.Mo Go.Proofs.YtinockknikfmgaaW.PrintWords Go.Proofs.YtinockknikfmgaaW.PrintLast

namespace XFnExactRegionsValid
theorem laws_eqIntS_ev (a b : List Int) (ha : a.length ≤ 4611686018427387904) : Ev (fun k => laws_eqIntS.f k a b) (decide (a = b)) := by
  have key : b.length = a.length → ∀ i, i ≤ a.length → Ev (fun k => laws_eqIntS.l0 k a b (i : Int)) (decide (a.drop i = b.drop i)) := by
    intro hl
    refine up a.length ?_ ?_
    · refine Ev.step (fun _ => rfl) ?_
      simp only [laws_eqIntS.l0]
      refine ev_neg (by omega) (ev_now ?_)
      rw [List.drop_length, ← hl, List.drop_length]; simp
    · intro i hi ih
      refine Ev.step (fun _ => rfl) ?_
      simp only [laws_eqIntS.l0]
      refine ev_pos (by omega) (ev_pos (by omega) (ev_pos (by omega) ?_))
      rw [rd_nat a i hi, rd_nat b i (by omega), w64s (by omega), drop_step a i hi, drop_step b i (by omega)]
      by_cases e : a[i] = b[i]
      · refine ev_pos e (ev_of_eq ih ?_); rw [decide_eq_decide, List.cons.injEq]; exact ⟨fun h => ⟨e, h⟩, fun h => h.2⟩
      · refine ev_neg e (ev_now ?_); symm; rw [decide_eq_false_iff_not, List.cons.injEq]; exact fun h => e h.1
  unfold laws_eqIntS.f
  by_cases hl : b.length = a.length
  · exact ev_pos (by omega) (by simpa using key hl 0 (by omega))
  · refine ev_neg (by omega) (ev_now ?_)
    have : a ≠ b := fun e => hl (by rw [e])
    simp [this]
theorem laws_toIntS_ev (a : List Int) (ha : a.length ≤ 35184372088832) : Ev (fun k => laws_toIntS.f k a) a := by
  have key : ∀ i, i ≤ a.length → Ev (fun k => laws_toIntS.l0 k a (a.take i ++ List.replicate (a.length - i) 0) (i : Int)) a := by
    refine up a.length ?_ ?_
    · refine Ev.step (fun _ => rfl) ?_
      simp only [laws_toIntS.l0]
      refine ev_neg (by omega) (ev_now ?_)
      simp
    · intro i hi ih
      refine Ev.step (fun _ => rfl) ?_
      simp only [laws_toIntS.l0]
      refine ev_pos (by omega) (ev_pos (by omega) (ev_pos (by simp; omega) ?_))
      rw [rd_nat a i hi, w64s (by omega)]
      have e : (a.take i ++ List.replicate (a.length - i) 0).set ((i : Int)).toNat a[i] = a.take (i + 1) ++ List.replicate (a.length - (i + 1)) 0 := by
        rw [Int.toNat_natCast, List.set_append_right _ _ (by simp; omega)]
        have h1 : i - (a.take i).length = 0 := by simp; omega
        rw [h1]
        obtain ⟨m, hm⟩ : ∃ m, a.length - i = m + 1 := ⟨a.length - i - 1, by omega⟩
        have h2 : a.length - (i + 1) = m := by omega
        rw [hm, List.replicate_succ, List.set_cons_zero, List.take_succ_eq_append_getElem hi, h2, List.append_assoc]; rfl
      rw [e]; exact ih
  unfold laws_toIntS.f
  refine ev_pos (by omega) (ev_pos (by omega) ?_)
  have := key 0 (by omega)
  simpa using this
theorem impl_sizeOk_eq (s : Int) : impl_sizeOk.f s = some (decide (Mo.SizeOk s)) := by
  unfold impl_sizeOk.f Mo.SizeOk
  by_cases h : s ≥ 2
  · rw [if_pos h]; simp [show (2 : Int) ≤ s from h]
  · rw [if_neg h]; simp [show ¬ (2 : Int) ≤ s from h]
theorem spec_l1In_eq (n lo hi : Int) : spec_l1In.f n lo hi = some (decide (lo ≤ n ∧ n ≤ hi)) := by
  unfold spec_l1In.f
  by_cases h : n ≥ lo
  · rw [if_pos h]; simp [show lo ≤ n from h]
  · rw [if_neg h]; simp [show ¬ lo ≤ n from h]
theorem impl_RegionsValid_ev (l : List Int) (s : Int) (hl : l.length ≤ 4611686018427387904) : Ev (fun k => impl_RegionsValid.f k l s) (decide (Mo.SqOk (s - 1) l s)) := by
  have key : ∀ i, i ≤ l.length → Ev (fun k => impl_RegionsValid.l0 k s l (l.length : Int) (i : Int)) (decide (Mo.AllIn 0 (s - 1) (l.drop i))) := by
    refine up l.length ?_ ?_
    · refine Ev.step (fun _ => rfl) ?_
      simp only [impl_RegionsValid.l0]
      refine ev_neg (by omega) (ev_now ?_)
      simp [Mo.AllIn.nil]
    · intro i hi ih
      refine Ev.step (fun _ => rfl) ?_
      simp only [impl_RegionsValid.l0]
      refine ev_pos (by omega) (ev_pos (by omega) (ev_pos (by omega) ?_))
      rw [rd_nat l i hi, w64s (by omega), drop_step l i hi]
      by_cases e : l[i] < 0
      · refine ev_pos e (ev_now ?_)
        symm; rw [decide_eq_false_iff_not, Mo.AllIn.cons]; omega
      · refine ev_neg e ?_
        by_cases e' : l[i] ≥ s
        · refine ev_pos e' (ev_now ?_)
          symm; rw [decide_eq_false_iff_not, Mo.AllIn.cons]; omega
        · refine ev_neg e' (ev_of_eq ih ?_)
          rw [decide_eq_decide, Mo.AllIn.cons]
          exact ⟨fun h => ⟨by omega, h⟩, fun h => h.2⟩
  unfold impl_RegionsValid.f
  refine ev_bindc (impl_sizeOk_eq s) ?_
  by_cases hs : Mo.SizeOk s
  · have hs' := hs
    unfold Mo.SizeOk at hs'
    refine ev_pos (by simpa using hs) (Ev.step (fun _ => rfl) ?_)
    simp only [impl_RegionsValid.j0]
    have hw : wrap64 (s * s) = s * s := by rcases hs.cases with rfl | rfl | rfl <;> exact w64 (by decide) (by decide)
    rw [hw]
    by_cases hn : (l.length : Int) = s * s
    · refine ev_neg (by simp [hn]) (ev_of_eq (key 0 (by omega)) ?_)
      rw [decide_eq_decide]
      exact ⟨fun h => ⟨hs, hn, by simpa using h⟩, fun h => by simpa using h.2.2⟩
    · refine ev_pos (by simp [hn]) (ev_now ?_)
      symm; rw [decide_eq_false_iff_not]; exact fun h => hn h.2.1
  · refine ev_neg (by simpa using hs) (Ev.step (fun _ => rfl) ?_)
    simp only [impl_RegionsValid.j0]
    refine ev_pos trivial (ev_now ?_)
    symm; rw [decide_eq_false_iff_not]; exact fun h => hs h.1
theorem spec_RegionsValid_ev (l : List Int) (s : Int) (hl : l.length ≤ 4611686018427387904) : Ev (fun k => spec_RegionsValid.f k l s) (decide (Mo.SqOk (s - 1) l s)) := by
  by_cases hs : Mo.SizeOk s
  · have hs' := hs
    unfold Mo.SizeOk at hs'
    have hw : wrap64 (s * s) = s * s := by rcases hs.cases with rfl | rfl | rfl <;> exact w64 (by decide) (by decide)
    have hw1 : wrap64 (s - 1) = s - 1 := w64 (by omega) (by omega)
    have key : ∀ i, i ≤ l.length → Ev (fun k => spec_RegionsValid.l0 k l s (i : Int)) (decide ((l.length : Int) = s * s ∧ Mo.AllIn 0 (s - 1) (l.drop i))) := by
      refine up l.length ?_ ?_
      · refine Ev.step (fun _ => rfl) ?_
        simp only [spec_RegionsValid.l0]
        refine ev_neg (by omega) (ev_bindc (spec_l1In_eq _ _ _) (ev_pos (by simpa using hs') (ev_now ?_)))
        simp [Mo.AllIn.nil, hw]
        exact (Bool.beq_eq_decide_eq _ _)
      · intro i hi ih
        refine Ev.step (fun _ => rfl) ?_
        simp only [spec_RegionsValid.l0]
        refine ev_pos (by omega) (ev_pos (by omega) (ev_bindc (spec_l1In_eq _ _ _) ?_))
        rw [rd_nat l i hi, w64s (by omega), drop_step l i hi, hw1]
        by_cases e : 0 ≤ l[i] ∧ l[i] ≤ s - 1
        · refine ev_pos (by simpa using e) (ev_of_eq ih ?_)
          rw [decide_eq_decide, Mo.AllIn.cons]
          exact ⟨fun h => ⟨h.1, e, h.2⟩, fun h => ⟨h.1, h.2.2⟩⟩
        · refine ev_neg (by simpa using e) (ev_now ?_)
          symm; rw [decide_eq_false_iff_not, Mo.AllIn.cons]; exact fun h => e h.2.1
    unfold spec_RegionsValid.f
    refine ev_of_eq (key 0 (by omega)) ?_
    rw [decide_eq_decide]
    exact ⟨fun h => ⟨hs, by simpa using h⟩, fun h => by simpa using h.2⟩
  · have key : ∀ i, i ≤ l.length → Ev (fun k => spec_RegionsValid.l0 k l s (i : Int)) false := by
      refine up l.length ?_ ?_
      · refine Ev.step (fun _ => rfl) ?_
        simp only [spec_RegionsValid.l0]
        exact ev_neg (by omega) (ev_bindc (spec_l1In_eq _ _ _) (ev_neg (by simpa [Mo.SizeOk] using hs) (ev_now rfl)))
      · intro i hi ih
        refine Ev.step (fun _ => rfl) ?_
        simp only [spec_RegionsValid.l0]
        refine ev_pos (by omega) (ev_pos (by omega) (ev_bindc (spec_l1In_eq _ _ _) ?_))
        rw [w64s (by omega)]
        by_cases e : decide (0 ≤ rd l (i : Int) ∧ rd l (i : Int) ≤ wrap64 (s - 1)) = true
        · exact ev_pos e ih
        · exact ev_neg e (ev_now rfl)
    unfold spec_RegionsValid.f
    refine ev_of_eq (key 0 (by omega)) ?_
    symm; rw [decide_eq_false_iff_not]; exact fun h => hs h.1
end XFnExactRegionsValid
open XFnExactRegionsValid
theorem FnExactRegionsValid : laws_FnExactRegionsValid.Pure := by
  intro l s _ _ _ _
  refine Ev.rounds (r := true) ?_
  unfold laws_FnExactRegionsValid.f
  by_cases hl : (l.length : Int) > 1048576
  · exact ev_pos hl (ev_now rfl)
  refine ev_neg hl ?_
  have hc : Ev (fun k => laws_toIntS.f k l) l := laws_toIntS_ev l (by omega)
  have hel : Ev (fun k => laws_eqIntS.f k l l) true := by simpa using laws_eqIntS_ev l l (by omega)
  refine Ev.bind hc (Ev.bind (spec_RegionsValid_ev l s (by omega)) (Ev.bind hc (Ev.bind (impl_RegionsValid_ev l s (by omega)) (ev_neg (by simp) ?_))))
  exact Ev.bind hc (Ev.bind hel (ev_pos rfl (ev_now rfl)))

end Go.Proofs.Ytinockknikfmgaa.Pure
