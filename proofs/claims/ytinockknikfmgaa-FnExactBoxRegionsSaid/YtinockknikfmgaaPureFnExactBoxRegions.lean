/- BoxRegions: the program and the reference return the same regions, in new memory. No conditions. -/
import Derived.Test.YtinockknikfmgaaPFnExactBoxRegionsx1
import Derived.Test.YtinockknikfmgaaMo
set_option linter.unusedSimpArgs false
set_option linter.unusedVariables false
set_option maxRecDepth 4000
namespace Go.Proofs.Ytinockknikfmgaa.Pure
open Go.RowKit Go.Proofs.Ytinockknikfmgaa.PFnExactBoxRegions Go.Proofs.Ytinockknikfmgaa.Pk Go.Proofs.Ytinockknikfmgaa.Mo Go.Proofs.YtinockknikfmgaaW.PrintWords Go.Proofs.YtinockknikfmgaaW.PrintLast

namespace XFnExactBoxRegions
theorem laws_eqIntS_ev (a b : List Int) (ha : a.length ≤ 4611686018427387904) : Ev (fun k => laws_eqIntS.f k a b) (decide (a = b)) := by
  have key : b.length = a.length → ∀ i, i ≤ a.length → Ev (fun k => laws_eqIntS.l0 k a b (i : Int)) (decide (a.drop i = b.drop i)) := by
    intro hl
    refine up a.length ?_ ?_
    · refine Ev.step (fun _ => rfl) ?_
      simp only [laws_eqIntS.l0]
      refine ev_neg (by omega) (ev_now ?_)
      rw [List.drop_length, ← hl, List.drop_length]; simp
    · intro i hi ih
      refine Ev.step (fun _ => rfl) ?_
      simp only [laws_eqIntS.l0]
      refine ev_pos (by omega) (ev_pos (by omega) (ev_pos (by omega) ?_))
      rw [rd_nat a i hi, rd_nat b i (by omega), w64s (by omega), drop_step a i hi, drop_step b i (by omega)]
      by_cases e : a[i] = b[i]
      · refine ev_pos e (ev_of_eq ih ?_); rw [decide_eq_decide, List.cons.injEq]; exact ⟨fun h => ⟨e, h⟩, fun h => h.2⟩
      · refine ev_neg e (ev_now ?_); symm; rw [decide_eq_false_iff_not, List.cons.injEq]; exact fun h => e h.1
  unfold laws_eqIntS.f
  by_cases hl : b.length = a.length
  · exact ev_pos (by omega) (by simpa using key hl 0 (by omega))
  · refine ev_neg (by omega) (ev_now ?_)
    have : a ≠ b := fun e => hl (by rw [e])
    simp [this]
theorem laws_markIntS_ev (l : List Int) (m : Int) (h0 : 0 ≤ m) (hm : m + l.length ≤ 4611686018427387904) : Ev (fun k => laws_markIntS.f k l m) (m + l.length, Mo.marks m l.length) := by
  have key : ∀ i, i ≤ l.length → Ev (fun k => laws_markIntS.l0 k (Mo.marks m i ++ l.drop i) (m + i) (i : Int)) (m + l.length, Mo.marks m l.length) := by
    refine up l.length ?_ ?_
    · refine Ev.step (fun _ => rfl) ?_
      simp only [laws_markIntS.l0]
      exact ev_neg (by simp) (ev_now (by simp))
    · intro i hi ih
      refine Ev.step (fun _ => rfl) ?_
      simp only [laws_markIntS.l0]
      refine ev_pos (by simp; omega) (ev_pos (by omega) ?_)
      rw [w64s (by omega), w64 (n := m + i + 1) (by omega) (by omega)]
      have e : (Mo.marks m i ++ l.drop i).set ((i : Int)).toNat (m + i) = Mo.marks m (i + 1) ++ l.drop (i + 1) := by
        rw [Int.toNat_natCast, List.set_append_right _ _ (by simp), Mo.marks_length, Nat.sub_self, drop_step l i hi, List.set_cons_zero, Mo.marks_succ, List.append_assoc]; rfl
      rw [e, show m + (i : Int) + 1 = m + ((i + 1 : Nat) : Int) by omega]
      exact ih
  unfold laws_markIntS.f
  simpa [Mo.marks] using key 0 (by omega)
theorem laws_heldIntS_ev (m : Int) (n : Nat) (h0 : 0 ≤ m) (hm : m + n ≤ 4611686018427387904) : Ev (fun k => laws_heldIntS.f k (Mo.marks m n) m) (m + n) := by
  have key : ∀ i, i ≤ n → Ev (fun k => laws_heldIntS.l0 k (Mo.marks m n) (m + i) (i : Int)) (m + n) := by
    refine up n ?_ ?_
    · refine Ev.step (fun _ => rfl) ?_
      simp only [laws_heldIntS.l0]
      exact ev_neg (by simp) (ev_now rfl)
    · intro i hi ih
      refine Ev.step (fun _ => rfl) ?_
      simp only [laws_heldIntS.l0]
      refine ev_pos (by simp; omega) (ev_pos (by omega) (ev_pos ?_ ?_))
      · rw [rd_nat _ i (by simp; omega)]; simp [Mo.marks]
      · rw [w64s (by omega), w64 (n := m + i + 1) (by omega) (by omega), show m + (i : Int) + 1 = m + ((i + 1 : Nat) : Int) by omega]
        exact ih
  unfold laws_heldIntS.f
  simpa using key 0 (by omega)
theorem spec_BoxRegions_ev : Ev (fun k => spec_BoxRegions.f k) Mo.boxes := Ev.of spec_BoxRegions.mono (k := 20) (by decide +kernel)
end XFnExactBoxRegions
open XFnExactBoxRegions
theorem FnExactBoxRegions : laws_FnExactBoxRegions.Pure := ⟨40, by decide +kernel⟩

end Go.Proofs.Ytinockknikfmgaa.Pure
