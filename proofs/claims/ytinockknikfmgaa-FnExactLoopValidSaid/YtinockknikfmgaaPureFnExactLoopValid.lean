/- FnExactLoopValid's pure law: both programs say the same of whether a field of edges is valid. Its conditions: lengths that a slice can have. -/
import Derived.Test.YtinockknikfmgaaPFnExactLoopValidx4
import Derived.Test.YtinockknikfmgaaMo
import Derived.Test.YtinockknikfmgaaLo
set_option linter.unusedSimpArgs false
set_option linter.unusedVariables false
set_option maxRecDepth 4000
namespace Go.Proofs.Ytinockknikfmgaa.Pure
open Go.RowKit Go.Proofs.Ytinockknikfmgaa.PFnExactLoopValid Go.Proofs.Ytinockknikfmgaa.Pk Go.Proofs.Ytinockknikfmgaa.Mo Go.Proofs.YtinockknikfmgaaW.PrintWords Go.Proofs.YtinockknikfmgaaW.PrintLast

namespace XFnExactLoopValid
theorem spec_l1In_eq (n lo hi : Int) : spec_l1In.f n lo hi = some (decide (lo ≤ n ∧ n ≤ hi)) := by
  unfold spec_l1In.f
  by_cases h : n ≥ lo
  · rw [if_pos h]; simp [show lo ≤ n from h]
  · rw [if_neg h]; simp [show ¬ lo ≤ n from h]
theorem laws_szBoolS_eq (l : List Bool) (m : Int) (h0 : 0 ≤ m) (hm : m ≤ 1048576) (hl : l.length ≤ 9223372036854775807) :
    laws_szBoolS.f l m = some (if (l.length : Int) ≤ m then m - l.length else -1) := by
  unfold laws_szBoolS.f
  rw [w64 (by omega) (by omega)]
  by_cases h : (l.length : Int) ≤ m
  · rw [if_neg (by omega), if_pos h]
  · rw [if_pos (by omega), if_neg h]
theorem laws_szBoolSS_ev (l : List (List Bool)) (m : Int) (h0 : 0 ≤ m) (hm : m ≤ 1048576) (hl : l.length ≤ 9223372036854775807) (hr : ∀ x ∈ l, x.length ≤ 9223372036854775807) :
    ∃ r, Ev (fun k => laws_szBoolSS.f k l m) r ∧ (r < 0 ∨ 0 ≤ r ∧ r ≤ m ∧ Mo.Short l) := by
  unfold laws_szBoolSS.f
  rw [w64 (by omega) (by omega)]
  by_cases h : m - (l.length : Int) < 0
  · exact ⟨-1, ev_pos h (ev_now rfl), .inl (by omega)⟩
  · have key : ∀ i, i ≤ l.length → ∀ q : Int, 0 ≤ q → q ≤ m → ∃ r, Ev (fun k => laws_szBoolSS.l0 k l q (i : Int)) r ∧ (r < 0 ∨ 0 ≤ r ∧ r ≤ m ∧ ∀ x ∈ l.drop i, x.length ≤ 1048576) := by
      refine up l.length ?_ ?_
      · intro q q0 q1
        refine ⟨q, Ev.step (fun _ => rfl) ?_, .inr ⟨q0, q1, by simp⟩⟩
        simp only [laws_szBoolSS.l0]
        exact ev_neg (by omega) (ev_now rfl)
      · intro i hi ih q q0 q1
        have e1 : rd_L1 l (i : Int) = l[i] := by unfold rd_L1; simp [hi]
        have hx := hr l[i] (List.getElem_mem _)
        have hs := laws_szBoolS_eq l[i] q q0 (by omega) hx
        by_cases hq : (l[i].length : Int) ≤ q
        · rw [if_pos hq] at hs
          obtain ⟨r, hev, hr2⟩ := ih (q - l[i].length) (by omega) (by omega)
          refine ⟨r, Ev.step (fun _ => rfl) ?_, ?_⟩
          · simp only [laws_szBoolSS.l0]
            refine ev_pos (by omega) (ev_pos (by omega) ?_)
            rw [e1, w64s (by omega)]
            exact ev_bindc hs (ev_neg (by omega) hev)
          · rcases hr2 with hr2 | ⟨a, b, c⟩
            · exact .inl hr2
            · refine .inr ⟨a, b, ?_⟩
              rw [drop_step l i hi]
              intro x hx2
              rcases List.mem_cons.1 hx2 with rfl | hx2
              · omega
              · exact c x hx2
        · rw [if_neg hq] at hs
          refine ⟨-1, Ev.step (fun _ => rfl) ?_, .inl (by omega)⟩
          simp only [laws_szBoolSS.l0]
          refine ev_pos (by omega) (ev_pos (by omega) ?_)
          rw [e1]
          exact ev_bindc hs (ev_pos (by omega) (ev_now rfl))
    obtain ⟨r, hev, hr2⟩ := key 0 (by omega) (m - l.length) (by omega) (by omega)
    refine ⟨r, ev_neg h hev, ?_⟩
    rcases hr2 with hr2 | ⟨a, b, c⟩
    · exact .inl hr2
    · exact .inr ⟨a, b, by omega, by simpa using c⟩
theorem laws_szLoop_ev (R C : Int) (A D : List (List Bool)) (hA : A.length ≤ 9223372036854775807) (hA2 : ∀ x ∈ A, x.length ≤ 9223372036854775807) (hD : D.length ≤ 9223372036854775807) (hD2 : ∀ x ∈ D, x.length ≤ 9223372036854775807) :
    ∃ r, Ev (fun k => laws_szLoop.f k R C A D 1048576) r ∧ (r < 0 ∨ 0 ≤ r ∧ Mo.Short A ∧ Mo.Short D) := by
  unfold laws_szLoop.f
  obtain ⟨r, hr, h⟩ := laws_szBoolSS_ev A 1048576 (by omega) (by omega) hA hA2
  rcases h with h | ⟨a, b, c⟩
  · exact ⟨-1, Ev.bind hr (ev_pos h (ev_now rfl)), .inl (by omega)⟩
  · obtain ⟨r', hr', h'⟩ := laws_szBoolSS_ev D r a (by omega) hD hD2
    rcases h' with h' | ⟨a', b', c'⟩
    · exact ⟨-1, Ev.bind hr (ev_neg (by omega) (Ev.bind hr' (ev_pos h' (ev_now rfl)))), .inl (by omega)⟩
    · exact ⟨r', Ev.bind hr (ev_neg (by omega) (Ev.bind hr' (ev_neg (by omega) (ev_now rfl)))), .inr ⟨a', c, c'⟩⟩
theorem laws_toBoolS_ev (a : List Bool) (ha : a.length ≤ 281474976710656) : Ev (fun k => laws_toBoolS.f k a) a := by
  have key : ∀ i, i ≤ a.length → Ev (fun k => laws_toBoolS.l0 k a (a.take i ++ List.replicate (a.length - i) false) (i : Int)) a := by
    refine up a.length ?_ ?_
    · refine Ev.step (fun _ => rfl) ?_
      simp only [laws_toBoolS.l0]
      refine ev_neg (by omega) (ev_now ?_)
      simp
    · intro i hi ih
      refine Ev.step (fun _ => rfl) ?_
      simp only [laws_toBoolS.l0]
      refine ev_pos (by omega) (ev_pos (by omega) (ev_pos (by simp; omega) ?_))
      rw [rdOf_nat false a i hi, w64s (by omega), Int.toNat_natCast]
      have e : (a.take i ++ List.replicate (a.length - i) false).set i a[i] = a.take (i + 1) ++ List.replicate (a.length - (i + 1)) false := by
        rw [List.set_append_right _ _ (by simp; omega)]
        have h1 : i - (a.take i).length = 0 := by simp; omega
        rw [h1]
        obtain ⟨m, hm⟩ : ∃ m, a.length - i = m + 1 := ⟨a.length - i - 1, by omega⟩
        have h2 : a.length - (i + 1) = m := by omega
        rw [hm, List.replicate_succ, List.set_cons_zero, List.take_succ_eq_append_getElem hi, h2, List.append_assoc]; rfl
      rw [e]; exact ih
  unfold laws_toBoolS.f
  refine ev_pos (by omega) (ev_pos (by omega) ?_)
  have := key 0 (by omega)
  simpa using this
theorem laws_toBoolSS_ev (a : List (List Bool)) (ha : Mo.Short a) : Ev (fun k => laws_toBoolSS.f k a) a := by
  obtain ⟨ha, ha2⟩ := ha
  have key : ∀ i, i ≤ a.length → Ev (fun k => laws_toBoolSS.l0 k a (a.take i ++ List.replicate (a.length - i) []) (i : Int)) a := by
    refine up a.length ?_ ?_
    · refine Ev.step (fun _ => rfl) ?_
      simp only [laws_toBoolSS.l0]
      refine ev_neg (by omega) (ev_now ?_)
      simp
    · intro i hi ih
      have e1 : rd_L1 a (i : Int) = a[i] := by unfold rd_L1; simp [hi]
      have hx := ha2 a[i] (List.getElem_mem _)
      refine Ev.step (fun _ => rfl) ?_
      simp only [laws_toBoolSS.l0]
      refine ev_pos (by omega) (ev_pos (by omega) ?_)
      rw [e1, w64s (by omega), Int.toNat_natCast]
      refine Ev.bind (laws_toBoolS_ev a[i] (by omega)) (ev_pos (by simp; omega) ?_)
      have e : (a.take i ++ List.replicate (a.length - i) []).set i a[i] = a.take (i + 1) ++ List.replicate (a.length - (i + 1)) [] := by
        rw [List.set_append_right _ _ (by simp; omega)]
        have h1 : i - (a.take i).length = 0 := by simp; omega
        rw [h1]
        obtain ⟨m, hm⟩ : ∃ m, a.length - i = m + 1 := ⟨a.length - i - 1, by omega⟩
        have h2 : a.length - (i + 1) = m := by omega
        rw [hm, List.replicate_succ, List.set_cons_zero, List.take_succ_eq_append_getElem hi, h2, List.append_assoc]; rfl
      rw [e]; exact ih
  unfold laws_toBoolSS.f
  refine ev_pos (by omega) (ev_pos (by omega) ?_)
  have := key 0 (by omega)
  simpa using this
theorem laws_toLoop_ev (R C : Int) (A D : List (List Bool)) (hA : Mo.Short A) (hD : Mo.Short D) : Ev (fun k => laws_toLoop.f k R C A D) (R, C, A, D) := by
  unfold laws_toLoop.f
  exact Ev.bind (laws_toBoolSS_ev A hA) (Ev.bind (laws_toBoolSS_ev D hD) (ev_now rfl))
theorem laws_eqBoolS_ev (a b : List Bool) (ha : a.length ≤ 4611686018427387904) : Ev (fun k => laws_eqBoolS.f k a b) (decide (a = b)) := by
  have key : b.length = a.length → ∀ i, i ≤ a.length → Ev (fun k => laws_eqBoolS.l0 k a b (i : Int)) (decide (a.drop i = b.drop i)) := by
    intro hl
    refine up a.length ?_ ?_
    · refine Ev.step (fun _ => rfl) ?_
      simp only [laws_eqBoolS.l0]
      refine ev_neg (by omega) (ev_now ?_)
      rw [List.drop_length, ← hl, List.drop_length]; simp
    · intro i hi ih
      refine Ev.step (fun _ => rfl) ?_
      simp only [laws_eqBoolS.l0]
      refine ev_pos (by omega) (ev_pos (by omega) (ev_pos (by omega) ?_))
      rw [rdOf_nat false a i hi, rdOf_nat false b i (by omega), w64s (by omega), drop_step a i hi, drop_step b i (by omega)]
      by_cases e : a[i] = b[i]
      · refine ev_neg (by simp [e]) (ev_of_eq ih ?_); rw [decide_eq_decide, List.cons.injEq]; exact ⟨fun h => ⟨e, h⟩, fun h => h.2⟩
      · refine ev_pos (by simp [e]) (ev_now ?_); symm; rw [decide_eq_false_iff_not, List.cons.injEq]; exact fun h => e h.1
  unfold laws_eqBoolS.f
  by_cases hl : b.length = a.length
  · exact ev_pos (by omega) (by simpa using key hl 0 (by omega))
  · refine ev_neg (by omega) (ev_now ?_)
    have : a ≠ b := fun e => hl (by rw [e])
    simp [this]
theorem laws_eqBoolSS_ev (a b : List (List Bool)) (ha : Mo.Short a) : Ev (fun k => laws_eqBoolSS.f k a b) (decide (a = b)) := by
  obtain ⟨ha, ha2⟩ := ha
  have key : b.length = a.length → ∀ i, i ≤ a.length → Ev (fun k => laws_eqBoolSS.l0 k a b (i : Int)) (decide (a.drop i = b.drop i)) := by
    intro hl
    refine up a.length ?_ ?_
    · refine Ev.step (fun _ => rfl) ?_
      simp only [laws_eqBoolSS.l0]
      refine ev_neg (by omega) (ev_now ?_)
      rw [List.drop_length, ← hl, List.drop_length]; simp
    · intro i hi ih
      have e1 : rd_L1 a (i : Int) = a[i] := by unfold rd_L1; simp [hi]
      have e2 : rd_L1 b (i : Int) = b[i]'(by omega) := by unfold rd_L1; simp [hl, hi]
      have hx := ha2 a[i] (List.getElem_mem _)
      refine Ev.step (fun _ => rfl) ?_
      simp only [laws_eqBoolSS.l0]
      refine ev_pos (by omega) (ev_pos (by omega) (ev_pos (by omega) ?_))
      rw [e1, e2, w64s (by omega), drop_step a i hi, drop_step b i (by omega)]
      refine Ev.bind (laws_eqBoolS_ev _ _ (by omega)) ?_
      by_cases e : a[i] = b[i]
      · refine ev_pos (by simp [e]) (ev_of_eq ih ?_); rw [decide_eq_decide, List.cons.injEq]; exact ⟨fun h => ⟨e, h⟩, fun h => h.2⟩
      · refine ev_neg (by simp [e]) (ev_now ?_); symm; rw [decide_eq_false_iff_not, List.cons.injEq]; exact fun h => e h.1
  unfold laws_eqBoolSS.f
  by_cases hl : b.length = a.length
  · exact ev_pos (by omega) (by simpa using key hl 0 (by omega))
  · refine ev_neg (by omega) (ev_now ?_)
    have : a ≠ b := fun e => hl (by rw [e])
    simp [this]
theorem laws_eqLoop_ev (R C : Int) (A D : List (List Bool)) (R' C' : Int) (A' D' : List (List Bool)) (hA : Mo.Short A) (hD : Mo.Short D) :
    Ev (fun k => laws_eqLoop.f k R C A D R' C' A' D') (decide (R = R' ∧ C = C' ∧ A = A' ∧ D = D')) := by
  unfold laws_eqLoop.f
  by_cases h1 : R = R'
  · refine ev_pos h1 ?_
    by_cases h2 : C = C'
    · refine ev_pos h2 (Ev.bind (laws_eqBoolSS_ev A A' hA) ?_)
      by_cases h3 : A = A'
      · refine ev_pos (by simp [h3]) (Ev.bind (laws_eqBoolSS_ev D D' hD) ?_)
        by_cases h4 : D = D'
        · exact ev_pos (by simp [h4]) (ev_now (by simp [h1, h2, h3, h4]))
        · exact ev_neg (by simp [h4]) (ev_now (by simp [h4]))
      · exact ev_neg (by simp [h3]) (ev_now (by simp [h3]))
    · exact ev_neg h2 (ev_now (by simp [h2]))
  · exact ev_neg h1 (ev_now (by simp [h1]))
theorem laws_eqLoop_same (R C : Int) (A D : List (List Bool)) (hA : Mo.Short A) (hD : Mo.Short D) : Ev (fun k => laws_eqLoop.f k R C A D R C A D) true :=
  ev_of_eq (laws_eqLoop_ev R C A D R C A D hA hD) (by simp)
theorem spec_LoopValid_ev (R C : Int) (A D : List (List Bool)) : Ev (fun k => spec_LoopValid.f k R C A D) (decide (Mo.FieldOk R C A D)) := by
  have no : ¬ Mo.FieldOk R C A D → Ev (fun k => spec_LoopValid.j0 k true R C A D) (decide (Mo.FieldOk R C A D)) := by
    intro h
    refine Ev.step (fun _ => rfl) ?_
    simp only [spec_LoopValid.j0]
    exact ev_pos trivial (ev_now (by simp [h]))
  unfold spec_LoopValid.f
  refine ev_bindc (spec_l1In_eq _ _ _) ?_
  by_cases h1 : 1 ≤ R ∧ R ≤ 4
  · refine ev_pos (by simpa using h1) (ev_bindc (spec_l1In_eq _ _ _) ?_)
    by_cases h2 : 1 ≤ C ∧ C ≤ 4
    · refine ev_pos (by simpa using h2) ?_
      rw [w64 (n := R + 1) (by omega) (by omega), w64 (n := C + 1) (by omega) (by omega)]
      by_cases h3 : (A.length : Int) = R + 1
      · refine ev_pos h3 ?_
        by_cases h4 : (D.length : Int) = C + 1
        · have hD : ∀ i, i ≤ D.length → Ev (fun k => spec_LoopValid.l1 k (i : Int) R C A D) (decide (Mo.Lens R (D.drop i))) := by
            refine up D.length ?_ ?_
            · refine Ev.step (fun _ => rfl) ?_
              simp only [spec_LoopValid.l1]
              exact ev_neg (by omega) (ev_now (by simp [Mo.Lens.nil]))
            · intro i hi ih
              have e1 : rd_L1 D (i : Int) = D[i] := by unfold rd_L1; simp [hi]
              refine Ev.step (fun _ => rfl) ?_
              simp only [spec_LoopValid.l1]
              refine ev_pos (by omega) (ev_pos (by omega) (ev_pos (by omega) ?_))
              rw [e1, w64s (by omega), drop_step D i hi]
              by_cases e : (D[i].length : Int) = R
              · refine ev_pos e (ev_of_eq ih ?_)
                rw [decide_eq_decide, Mo.Lens.cons]; exact ⟨fun h => ⟨e, h⟩, fun h => h.2⟩
              · refine ev_neg e (ev_now ?_)
                symm; rw [decide_eq_false_iff_not, Mo.Lens.cons]; exact fun h => e h.1
          have hA : ∀ i, i ≤ A.length → Ev (fun k => spec_LoopValid.l0 k (i : Int) R C A D) (decide (Mo.Lens C (A.drop i) ∧ Mo.Lens R D)) := by
            refine up A.length ?_ ?_
            · refine Ev.step (fun _ => rfl) ?_
              simp only [spec_LoopValid.l0]
              refine ev_neg (by omega) (ev_of_eq (hD 0 (by omega)) ?_)
              rw [decide_eq_decide]; simp [Mo.Lens.nil]
            · intro i hi ih
              have e1 : rd_L1 A (i : Int) = A[i] := by unfold rd_L1; simp [hi]
              refine Ev.step (fun _ => rfl) ?_
              simp only [spec_LoopValid.l0]
              refine ev_pos (by omega) (ev_pos (by omega) (ev_pos (by omega) ?_))
              rw [e1, w64s (by omega), drop_step A i hi]
              by_cases e : (A[i].length : Int) = C
              · refine ev_pos e (ev_of_eq ih ?_)
                rw [decide_eq_decide, Mo.Lens.cons]; exact ⟨fun h => ⟨⟨e, h.1⟩, h.2⟩, fun h => ⟨h.1.2, h.2⟩⟩
              · refine ev_neg e (ev_now ?_)
                symm; rw [decide_eq_false_iff_not, Mo.Lens.cons]; exact fun h => e h.1.1
          refine Ev.step (fun _ => rfl) ?_
          simp only [spec_LoopValid.j0]
          refine ev_neg (by simp [h4]) (ev_of_eq (hA 0 (by omega)) ?_)
          rw [decide_eq_decide]
          exact ⟨fun h => ⟨h1, h2, h3, h4, by simpa using h.1, h.2⟩, fun h => ⟨by simpa using h.2.2.2.2.1, h.2.2.2.2.2⟩⟩
        · have e : ((D.length : Int) != C + 1) = true := by simpa using h4
          rw [e]; exact no (fun h => h4 h.2.2.2.1)
      · exact ev_neg h3 (no (fun h => h3 h.2.2.1))
    · exact ev_neg (by simpa using h2) (no (fun h => h2 h.2.1))
  · exact ev_neg (by simpa using h1) (no (fun h => h1 h.1))
theorem impl_LoopValid_ev (R C : Int) (A D : List (List Bool)) : Ev (fun k => impl_LoopValid.f k R C A D) (decide (Mo.FieldOk R C A D)) := by
  have no : ¬ Mo.FieldOk R C A D → Ev (fun k => impl_LoopValid.j0 k true R C A D) (decide (Mo.FieldOk R C A D)) := by
    intro h
    refine Ev.step (fun _ => rfl) ?_
    simp only [impl_LoopValid.j0]
    exact ev_pos trivial (ev_now (by simp [h]))
  unfold impl_LoopValid.f
  by_cases h1 : R < 1
  · exact ev_pos h1 (no (fun h => by have := h.1; omega))
  · refine ev_neg h1 ?_
    by_cases h1' : R > 4
    · exact ev_pos h1' (no (fun h => by have := h.1; omega))
    · refine ev_neg h1' ?_
      by_cases h2 : C < 1
      · exact ev_pos h2 (no (fun h => by have := h.2.1; omega))
      · refine ev_neg h2 ?_
        by_cases h2' : C > 4
        · exact ev_pos h2' (no (fun h => by have := h.2.1; omega))
        · refine ev_neg h2' ?_
          rw [w64 (n := R + 1) (by omega) (by omega), w64 (n := C + 1) (by omega) (by omega)]
          by_cases h3 : (A.length : Int) = R + 1
          · refine ev_pos h3 ?_
            by_cases h4 : (D.length : Int) = C + 1
            · have hD : ∀ i, i ≤ D.length → Ev (fun k => impl_LoopValid.l1 k D (D.length : Int) (i : Int) R C A D) (decide (Mo.Lens R (D.drop i))) := by
                refine up D.length ?_ ?_
                · refine Ev.step (fun _ => rfl) ?_
                  simp only [impl_LoopValid.l1]
                  exact ev_neg (by omega) (ev_now (by simp [Mo.Lens.nil]))
                · intro i hi ih
                  have e1 : rd_L1 D (i : Int) = D[i] := by unfold rd_L1; simp [hi]
                  refine Ev.step (fun _ => rfl) ?_
                  simp only [impl_LoopValid.l1]
                  refine ev_pos (by omega) (ev_pos (by omega) (ev_pos (by omega) ?_))
                  rw [e1, w64s (by omega), drop_step D i hi]
                  by_cases e : (D[i].length : Int) = R
                  · refine ev_pos e (ev_of_eq ih ?_)
                    rw [decide_eq_decide, Mo.Lens.cons]; exact ⟨fun h => ⟨e, h⟩, fun h => h.2⟩
                  · refine ev_neg e (ev_now ?_)
                    symm; rw [decide_eq_false_iff_not, Mo.Lens.cons]; exact fun h => e h.1
              have hA : ∀ i, i ≤ A.length → Ev (fun k => impl_LoopValid.l0 k A (A.length : Int) (i : Int) R C A D) (decide (Mo.Lens C (A.drop i) ∧ Mo.Lens R D)) := by
                refine up A.length ?_ ?_
                · refine Ev.step (fun _ => rfl) ?_
                  simp only [impl_LoopValid.l0]
                  refine ev_neg (by omega) (ev_of_eq (hD 0 (by omega)) ?_)
                  rw [decide_eq_decide]; simp [Mo.Lens.nil]
                · intro i hi ih
                  have e1 : rd_L1 A (i : Int) = A[i] := by unfold rd_L1; simp [hi]
                  refine Ev.step (fun _ => rfl) ?_
                  simp only [impl_LoopValid.l0]
                  refine ev_pos (by omega) (ev_pos (by omega) (ev_pos (by omega) ?_))
                  rw [e1, w64s (by omega), drop_step A i hi]
                  by_cases e : (A[i].length : Int) = C
                  · refine ev_pos e (ev_of_eq ih ?_)
                    rw [decide_eq_decide, Mo.Lens.cons]; exact ⟨fun h => ⟨⟨e, h.1⟩, h.2⟩, fun h => ⟨h.1.2, h.2⟩⟩
                  · refine ev_neg e (ev_now ?_)
                    symm; rw [decide_eq_false_iff_not, Mo.Lens.cons]; exact fun h => e h.1.1
              refine Ev.step (fun _ => rfl) ?_
              simp only [impl_LoopValid.j0]
              refine ev_neg (by simp [h4]) (ev_of_eq (hA 0 (by omega)) ?_)
              rw [decide_eq_decide]
              exact ⟨fun h => ⟨⟨by omega, by omega⟩, ⟨by omega, by omega⟩, h3, h4, by simpa using h.1, h.2⟩, fun h => ⟨by simpa using h.2.2.2.2.1, h.2.2.2.2.2⟩⟩
            · have e : ((D.length : Int) != C + 1) = true := by simpa using h4
              rw [e]; exact no (fun h => h4 h.2.2.2.1)
          · exact ev_neg h3 (no (fun h => h3 h.2.2.1))
end XFnExactLoopValid
open XFnExactLoopValid
theorem FnExactLoopValid (R C : Int) (A D : List (List Bool)) (hA : A.length ≤ 9223372036854775807) (hA2 : ∀ x ∈ A, x.length ≤ 9223372036854775807) (hD : D.length ≤ 9223372036854775807) (hD2 : ∀ x ∈ D, x.length ≤ 9223372036854775807) :
    ∃ k, laws_FnExactLoopValid.f k R C A D = some true := by
  apply Ev.rounds
  unfold laws_FnExactLoopValid.f
  obtain ⟨r, hr, h⟩ := laws_szLoop_ev R C A D hA hA2 hD hD2
  refine Ev.bind hr ?_
  rcases h with h | ⟨h, sA, sD⟩
  · exact ev_pos h (ev_now rfl)
  · refine ev_neg (by omega) (Ev.bind (laws_toLoop_ev R C A D sA sD) (Ev.bind (spec_LoopValid_ev R C A D) (Ev.bind (laws_toLoop_ev R C A D sA sD) (Ev.bind (impl_LoopValid_ev R C A D) (ev_neg (by simp) (Ev.bind (laws_toLoop_ev R C A D sA sD) (Ev.bind (laws_eqLoop_same R C A D sA sD) (ev_pos rfl (ev_now rfl)))))))))

end Go.Proofs.Ytinockknikfmgaa.Pure
