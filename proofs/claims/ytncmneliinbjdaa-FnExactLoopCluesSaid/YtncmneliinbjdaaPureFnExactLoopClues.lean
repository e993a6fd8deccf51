/- FnExactLoopClues' pure law: both programs tell the same clues, and the result is memory of its own. Its conditions: lengths that a slice can have. -/
import Derived.Test.YtncmneliinbjdaaPMkx21
import Derived.Test.YtncmneliinbjdaaMo
import Derived.Test.YtncmneliinbjdaaLo
set_option linter.unusedSimpArgs false
set_option linter.unusedVariables false
set_option maxRecDepth 4000
namespace Go.Proofs.Ytncmneliinbjdaa.Pure
open Go.RowKit Go.Proofs.Ytncmneliinbjdaa.PMk Go.Proofs.Ytncmneliinbjdaa.Pk Go.Proofs.Ytncmneliinbjdaa.Mo Go.Proofs.YtncmneliinbjdaaW.PrintWords Go.Proofs.YtncmneliinbjdaaW.PrintLast

namespace XFnExactLoopClues
theorem laws_eqIntS_ev (a b : List Int) (ha : a.length ≤ 4611686018427387904) : Ev (fun k => laws_eqIntS.f k a b) (decide (a = b)) := by
  have key : b.length = a.length → ∀ i, i ≤ a.length → Ev (fun k => laws_eqIntS.l0 k a b (i : Int)) (decide (a.drop i = b.drop i)) := by
    intro hl
    refine up a.length ?_ ?_
    · refine Ev.step (fun _ => rfl) ?_
      simp only [laws_eqIntS.l0]
      refine ev_neg (by omega) (ev_now ?_)
      rw [List.drop_length, ← hl, List.drop_length]; simp
    · intro i hi ih
      refine Ev.step (fun _ => rfl) ?_
      simp only [laws_eqIntS.l0]
      refine ev_pos (by omega) (ev_pos (by omega) (ev_pos (by omega) ?_))
      rw [rd_nat a i hi, rd_nat b i (by omega), w64s (by omega), drop_step a i hi, drop_step b i (by omega)]
      by_cases e : a[i] = b[i]
      · refine ev_pos e (ev_of_eq ih ?_); rw [decide_eq_decide, List.cons.injEq]; exact ⟨fun h => ⟨e, h⟩, fun h => h.2⟩
      · refine ev_neg e (ev_now ?_); symm; rw [decide_eq_false_iff_not, List.cons.injEq]; exact fun h => e h.1
  unfold laws_eqIntS.f
  by_cases hl : b.length = a.length
  · exact ev_pos (by omega) (by simpa using key hl 0 (by omega))
  · refine ev_neg (by omega) (ev_now ?_)
    have : a ≠ b := fun e => hl (by rw [e])
    simp [this]
theorem spec_l1In_eq (n lo hi : Int) : spec_l1In.f n lo hi = some (decide (lo ≤ n ∧ n ≤ hi)) := by
  unfold spec_l1In.f
  by_cases h : n ≥ lo
  · rw [if_pos h]; simp [show lo ≤ n from h]
  · rw [if_neg h]; simp [show ¬ lo ≤ n from h]
theorem laws_markIntS_ev (l : List Int) (m : Int) (h0 : 0 ≤ m) (hm : m + l.length ≤ 4611686018427387904) : Ev (fun k => laws_markIntS.f k l m) (m + l.length, Mo.marks m l.length) := by
  have key : ∀ i, i ≤ l.length → Ev (fun k => laws_markIntS.l0 k (Mo.marks m i ++ l.drop i) (m + i) (i : Int)) (m + l.length, Mo.marks m l.length) := by
    refine up l.length ?_ ?_
    · refine Ev.step (fun _ => rfl) ?_
      simp only [laws_markIntS.l0]
      exact ev_neg (by simp) (ev_now (by simp))
    · intro i hi ih
      refine Ev.step (fun _ => rfl) ?_
      simp only [laws_markIntS.l0]
      refine ev_pos (by simp; omega) (ev_pos (by omega) ?_)
      rw [w64s (by omega), w64 (n := m + i + 1) (by omega) (by omega)]
      have e : (Mo.marks m i ++ l.drop i).set ((i : Int)).toNat (m + i) = Mo.marks m (i + 1) ++ l.drop (i + 1) := by
        rw [Int.toNat_natCast, List.set_append_right _ _ (by simp), Mo.marks_length, Nat.sub_self, drop_step l i hi, List.set_cons_zero, Mo.marks_succ, List.append_assoc]; rfl
      rw [e, show m + (i : Int) + 1 = m + ((i + 1 : Nat) : Int) by omega]
      exact ih
  unfold laws_markIntS.f
  simpa [Mo.marks] using key 0 (by omega)
theorem laws_heldIntS_ev (m : Int) (n : Nat) (h0 : 0 ≤ m) (hm : m + n ≤ 4611686018427387904) : Ev (fun k => laws_heldIntS.f k (Mo.marks m n) m) (m + n) := by
  have key : ∀ i, i ≤ n → Ev (fun k => laws_heldIntS.l0 k (Mo.marks m n) (m + i) (i : Int)) (m + n) := by
    refine up n ?_ ?_
    · refine Ev.step (fun _ => rfl) ?_
      simp only [laws_heldIntS.l0]
      exact ev_neg (by simp) (ev_now rfl)
    · intro i hi ih
      refine Ev.step (fun _ => rfl) ?_
      simp only [laws_heldIntS.l0]
      refine ev_pos (by simp; omega) (ev_pos (by omega) (ev_pos ?_ ?_))
      · rw [rd_nat _ i (by simp; omega)]; simp [Mo.marks]
      · rw [w64s (by omega), w64 (n := m + i + 1) (by omega) (by omega), show m + (i : Int) + 1 = m + ((i + 1 : Nat) : Int) by omega]
        exact ih
  unfold laws_heldIntS.f
  simpa using key 0 (by omega)
theorem laws_szBoolS_eq (l : List Bool) (m : Int) (h0 : 0 ≤ m) (hm : m ≤ 1048576) (hl : l.length ≤ 9223372036854775807) :
    laws_szBoolS.f l m = some (if (l.length : Int) ≤ m then m - l.length else -1) := by
  unfold laws_szBoolS.f
  rw [w64 (by omega) (by omega)]
  by_cases h : (l.length : Int) ≤ m
  · rw [if_neg (by omega), if_pos h]
  · rw [if_pos (by omega), if_neg h]
theorem laws_szBoolSS_ev (l : List (List Bool)) (m : Int) (h0 : 0 ≤ m) (hm : m ≤ 1048576) (hl : l.length ≤ 9223372036854775807) (hr : ∀ x ∈ l, x.length ≤ 9223372036854775807) :
    ∃ r, Ev (fun k => laws_szBoolSS.f k l m) r ∧ (r < 0 ∨ 0 ≤ r ∧ r ≤ m ∧ Mo.Short l) := by
  unfold laws_szBoolSS.f
  rw [w64 (by omega) (by omega)]
  by_cases h : m - (l.length : Int) < 0
  · exact ⟨-1, ev_pos h (ev_now rfl), .inl (by omega)⟩
  · have key : ∀ i, i ≤ l.length → ∀ q : Int, 0 ≤ q → q ≤ m → ∃ r, Ev (fun k => laws_szBoolSS.l0 k l q (i : Int)) r ∧ (r < 0 ∨ 0 ≤ r ∧ r ≤ m ∧ ∀ x ∈ l.drop i, x.length ≤ 1048576) := by
      refine up l.length ?_ ?_
      · intro q q0 q1
        refine ⟨q, Ev.step (fun _ => rfl) ?_, .inr ⟨q0, q1, by simp⟩⟩
        simp only [laws_szBoolSS.l0]
        exact ev_neg (by omega) (ev_now rfl)
      · intro i hi ih q q0 q1
        have e1 : rd_L1 l (i : Int) = l[i] := by unfold rd_L1; simp [hi]
        have hx := hr l[i] (List.getElem_mem _)
        have hs := laws_szBoolS_eq l[i] q q0 (by omega) hx
        by_cases hq : (l[i].length : Int) ≤ q
        · rw [if_pos hq] at hs
          obtain ⟨r, hev, hr2⟩ := ih (q - l[i].length) (by omega) (by omega)
          refine ⟨r, Ev.step (fun _ => rfl) ?_, ?_⟩
          · simp only [laws_szBoolSS.l0]
            refine ev_pos (by omega) (ev_pos (by omega) ?_)
            rw [e1, w64s (by omega)]
            exact ev_bindc hs (ev_neg (by omega) hev)
          · rcases hr2 with hr2 | ⟨a, b, c⟩
            · exact .inl hr2
            · refine .inr ⟨a, b, ?_⟩
              rw [drop_step l i hi]
              intro x hx2
              rcases List.mem_cons.1 hx2 with rfl | hx2
              · omega
              · exact c x hx2
        · rw [if_neg hq] at hs
          refine ⟨-1, Ev.step (fun _ => rfl) ?_, .inl (by omega)⟩
          simp only [laws_szBoolSS.l0]
          refine ev_pos (by omega) (ev_pos (by omega) ?_)
          rw [e1]
          exact ev_bindc hs (ev_pos (by omega) (ev_now rfl))
    obtain ⟨r, hev, hr2⟩ := key 0 (by omega) (m - l.length) (by omega) (by omega)
    refine ⟨r, ev_neg h hev, ?_⟩
    rcases hr2 with hr2 | ⟨a, b, c⟩
    · exact .inl hr2
    · exact .inr ⟨a, b, by omega, by simpa using c⟩
theorem laws_szLoop_ev (R C : Int) (A D : List (List Bool)) (hA : A.length ≤ 9223372036854775807) (hA2 : ∀ x ∈ A, x.length ≤ 9223372036854775807) (hD : D.length ≤ 9223372036854775807) (hD2 : ∀ x ∈ D, x.length ≤ 9223372036854775807) :
    ∃ r, Ev (fun k => laws_szLoop.f k R C A D 1048576) r ∧ (r < 0 ∨ 0 ≤ r ∧ Mo.Short A ∧ Mo.Short D) := by
  unfold laws_szLoop.f
  obtain ⟨r, hr, h⟩ := laws_szBoolSS_ev A 1048576 (by omega) (by omega) hA hA2
  rcases h with h | ⟨a, b, c⟩
  · exact ⟨-1, Ev.bind hr (ev_pos h (ev_now rfl)), .inl (by omega)⟩
  · obtain ⟨r', hr', h'⟩ := laws_szBoolSS_ev D r a (by omega) hD hD2
    rcases h' with h' | ⟨a', b', c'⟩
    · exact ⟨-1, Ev.bind hr (ev_neg (by omega) (Ev.bind hr' (ev_pos h' (ev_now rfl)))), .inl (by omega)⟩
    · exact ⟨r', Ev.bind hr (ev_neg (by omega) (Ev.bind hr' (ev_neg (by omega) (ev_now rfl)))), .inr ⟨a', c, c'⟩⟩
theorem laws_toBoolS_ev (a : List Bool) (ha : a.length ≤ 281474976710656) : Ev (fun k => laws_toBoolS.f k a) a := by
  have key : ∀ i, i ≤ a.length → Ev (fun k => laws_toBoolS.l0 k a (a.take i ++ List.replicate (a.length - i) false) (i : Int)) a := by
    refine up a.length ?_ ?_
    · refine Ev.step (fun _ => rfl) ?_
      simp only [laws_toBoolS.l0]
      refine ev_neg (by omega) (ev_now ?_)
      simp
    · intro i hi ih
      refine Ev.step (fun _ => rfl) ?_
      simp only [laws_toBoolS.l0]
      refine ev_pos (by omega) (ev_pos (by omega) (ev_pos (by simp; omega) ?_))
      rw [rdOf_nat false a i hi, w64s (by omega), Int.toNat_natCast]
      have e : (a.take i ++ List.replicate (a.length - i) false).set i a[i] = a.take (i + 1) ++ List.replicate (a.length - (i + 1)) false := by
        rw [List.set_append_right _ _ (by simp; omega)]
        have h1 : i - (a.take i).length = 0 := by simp; omega
        rw [h1]
        obtain ⟨m, hm⟩ : ∃ m, a.length - i = m + 1 := ⟨a.length - i - 1, by omega⟩
        have h2 : a.length - (i + 1) = m := by omega
        rw [hm, List.replicate_succ, List.set_cons_zero, List.take_succ_eq_append_getElem hi, h2, List.append_assoc]; rfl
      rw [e]; exact ih
  unfold laws_toBoolS.f
  refine ev_pos (by omega) (ev_pos (by omega) ?_)
  have := key 0 (by omega)
  simpa using this
theorem laws_toBoolSS_ev (a : List (List Bool)) (ha : Mo.Short a) : Ev (fun k => laws_toBoolSS.f k a) a := by
  obtain ⟨ha, ha2⟩ := ha
  have key : ∀ i, i ≤ a.length → Ev (fun k => laws_toBoolSS.l0 k a (a.take i ++ List.replicate (a.length - i) []) (i : Int)) a := by
    refine up a.length ?_ ?_
    · refine Ev.step (fun _ => rfl) ?_
      simp only [laws_toBoolSS.l0]
      refine ev_neg (by omega) (ev_now ?_)
      simp
    · intro i hi ih
      have e1 : rd_L1 a (i : Int) = a[i] := by unfold rd_L1; simp [hi]
      have hx := ha2 a[i] (List.getElem_mem _)
      refine Ev.step (fun _ => rfl) ?_
      simp only [laws_toBoolSS.l0]
      refine ev_pos (by omega) (ev_pos (by omega) ?_)
      rw [e1, w64s (by omega), Int.toNat_natCast]
      refine Ev.bind (laws_toBoolS_ev a[i] (by omega)) (ev_pos (by simp; omega) ?_)
      have e : (a.take i ++ List.replicate (a.length - i) []).set i a[i] = a.take (i + 1) ++ List.replicate (a.length - (i + 1)) [] := by
        rw [List.set_append_right _ _ (by simp; omega)]
        have h1 : i - (a.take i).length = 0 := by simp; omega
        rw [h1]
        obtain ⟨m, hm⟩ : ∃ m, a.length - i = m + 1 := ⟨a.length - i - 1, by omega⟩
        have h2 : a.length - (i + 1) = m := by omega
        rw [hm, List.replicate_succ, List.set_cons_zero, List.take_succ_eq_append_getElem hi, h2, List.append_assoc]; rfl
      rw [e]; exact ih
  unfold laws_toBoolSS.f
  refine ev_pos (by omega) (ev_pos (by omega) ?_)
  have := key 0 (by omega)
  simpa using this
theorem laws_toLoop_ev (R C : Int) (A D : List (List Bool)) (hA : Mo.Short A) (hD : Mo.Short D) : Ev (fun k => laws_toLoop.f k R C A D) (R, C, A, D) := by
  unfold laws_toLoop.f
  exact Ev.bind (laws_toBoolSS_ev A hA) (Ev.bind (laws_toBoolSS_ev D hD) (ev_now rfl))
theorem laws_eqBoolS_ev (a b : List Bool) (ha : a.length ≤ 4611686018427387904) : Ev (fun k => laws_eqBoolS.f k a b) (decide (a = b)) := by
  have key : b.length = a.length → ∀ i, i ≤ a.length → Ev (fun k => laws_eqBoolS.l0 k a b (i : Int)) (decide (a.drop i = b.drop i)) := by
    intro hl
    refine up a.length ?_ ?_
    · refine Ev.step (fun _ => rfl) ?_
      simp only [laws_eqBoolS.l0]
      refine ev_neg (by omega) (ev_now ?_)
      rw [List.drop_length, ← hl, List.drop_length]; simp
    · intro i hi ih
      refine Ev.step (fun _ => rfl) ?_
      simp only [laws_eqBoolS.l0]
      refine ev_pos (by omega) (ev_pos (by omega) (ev_pos (by omega) ?_))
      rw [rdOf_nat false a i hi, rdOf_nat false b i (by omega), w64s (by omega), drop_step a i hi, drop_step b i (by omega)]
      by_cases e : a[i] = b[i]
      · refine ev_neg (by simp [e]) (ev_of_eq ih ?_); rw [decide_eq_decide, List.cons.injEq]; exact ⟨fun h => ⟨e, h⟩, fun h => h.2⟩
      · refine ev_pos (by simp [e]) (ev_now ?_); symm; rw [decide_eq_false_iff_not, List.cons.injEq]; exact fun h => e h.1
  unfold laws_eqBoolS.f
  by_cases hl : b.length = a.length
  · exact ev_pos (by omega) (by simpa using key hl 0 (by omega))
  · refine ev_neg (by omega) (ev_now ?_)
    have : a ≠ b := fun e => hl (by rw [e])
    simp [this]
theorem laws_eqBoolSS_ev (a b : List (List Bool)) (ha : Mo.Short a) : Ev (fun k => laws_eqBoolSS.f k a b) (decide (a = b)) := by
  obtain ⟨ha, ha2⟩ := ha
  have key : b.length = a.length → ∀ i, i ≤ a.length → Ev (fun k => laws_eqBoolSS.l0 k a b (i : Int)) (decide (a.drop i = b.drop i)) := by
    intro hl
    refine up a.length ?_ ?_
    · refine Ev.step (fun _ => rfl) ?_
      simp only [laws_eqBoolSS.l0]
      refine ev_neg (by omega) (ev_now ?_)
      rw [List.drop_length, ← hl, List.drop_length]; simp
    · intro i hi ih
      have e1 : rd_L1 a (i : Int) = a[i] := by unfold rd_L1; simp [hi]
      have e2 : rd_L1 b (i : Int) = b[i]'(by omega) := by unfold rd_L1; simp [hl, hi]
      have hx := ha2 a[i] (List.getElem_mem _)
      refine Ev.step (fun _ => rfl) ?_
      simp only [laws_eqBoolSS.l0]
      refine ev_pos (by omega) (ev_pos (by omega) (ev_pos (by omega) ?_))
      rw [e1, e2, w64s (by omega), drop_step a i hi, drop_step b i (by omega)]
      refine Ev.bind (laws_eqBoolS_ev _ _ (by omega)) ?_
      by_cases e : a[i] = b[i]
      · refine ev_pos (by simp [e]) (ev_of_eq ih ?_); rw [decide_eq_decide, List.cons.injEq]; exact ⟨fun h => ⟨e, h⟩, fun h => h.2⟩
      · refine ev_neg (by simp [e]) (ev_now ?_); symm; rw [decide_eq_false_iff_not, List.cons.injEq]; exact fun h => e h.1
  unfold laws_eqBoolSS.f
  by_cases hl : b.length = a.length
  · exact ev_pos (by omega) (by simpa using key hl 0 (by omega))
  · refine ev_neg (by omega) (ev_now ?_)
    have : a ≠ b := fun e => hl (by rw [e])
    simp [this]
theorem laws_eqLoop_ev (R C : Int) (A D : List (List Bool)) (R' C' : Int) (A' D' : List (List Bool)) (hA : Mo.Short A) (hD : Mo.Short D) :
    Ev (fun k => laws_eqLoop.f k R C A D R' C' A' D') (decide (R = R' ∧ C = C' ∧ A = A' ∧ D = D')) := by
  unfold laws_eqLoop.f
  by_cases h1 : R = R'
  · refine ev_pos h1 ?_
    by_cases h2 : C = C'
    · refine ev_pos h2 (Ev.bind (laws_eqBoolSS_ev A A' hA) ?_)
      by_cases h3 : A = A'
      · refine ev_pos (by simp [h3]) (Ev.bind (laws_eqBoolSS_ev D D' hD) ?_)
        by_cases h4 : D = D'
        · exact ev_pos (by simp [h4]) (ev_now (by simp [h1, h2, h3, h4]))
        · exact ev_neg (by simp [h4]) (ev_now (by simp [h4]))
      · exact ev_neg (by simp [h3]) (ev_now (by simp [h3]))
    · exact ev_neg h2 (ev_now (by simp [h2]))
  · exact ev_neg h1 (ev_now (by simp [h1]))
theorem laws_eqLoop_same (R C : Int) (A D : List (List Bool)) (hA : Mo.Short A) (hD : Mo.Short D) : Ev (fun k => laws_eqLoop.f k R C A D R C A D) true :=
  ev_of_eq (laws_eqLoop_ev R C A D R C A D hA hD) (by simp)
theorem spec_LoopValid_ev (R C : Int) (A D : List (List Bool)) : Ev (fun k => spec_LoopValid.f k R C A D) (decide (Mo.FieldOk R C A D)) := by
  have no : ¬ Mo.FieldOk R C A D → Ev (fun k => spec_LoopValid.j0 k true R C A D) (decide (Mo.FieldOk R C A D)) := by
    intro h
    refine Ev.step (fun _ => rfl) ?_
    simp only [spec_LoopValid.j0]
    exact ev_pos trivial (ev_now (by simp [h]))
  unfold spec_LoopValid.f
  refine ev_bindc (spec_l1In_eq _ _ _) ?_
  by_cases h1 : 1 ≤ R ∧ R ≤ 4
  · refine ev_pos (by simpa using h1) (ev_bindc (spec_l1In_eq _ _ _) ?_)
    by_cases h2 : 1 ≤ C ∧ C ≤ 4
    · refine ev_pos (by simpa using h2) ?_
      rw [w64 (n := R + 1) (by omega) (by omega), w64 (n := C + 1) (by omega) (by omega)]
      by_cases h3 : (A.length : Int) = R + 1
      · refine ev_pos h3 ?_
        by_cases h4 : (D.length : Int) = C + 1
        · have hD : ∀ i, i ≤ D.length → Ev (fun k => spec_LoopValid.l1 k (i : Int) R C A D) (decide (Mo.Lens R (D.drop i))) := by
            refine up D.length ?_ ?_
            · refine Ev.step (fun _ => rfl) ?_
              simp only [spec_LoopValid.l1]
              exact ev_neg (by omega) (ev_now (by simp [Mo.Lens.nil]))
            · intro i hi ih
              have e1 : rd_L1 D (i : Int) = D[i] := by unfold rd_L1; simp [hi]
              refine Ev.step (fun _ => rfl) ?_
              simp only [spec_LoopValid.l1]
              refine ev_pos (by omega) (ev_pos (by omega) (ev_pos (by omega) ?_))
              rw [e1, w64s (by omega), drop_step D i hi]
              by_cases e : (D[i].length : Int) = R
              · refine ev_pos e (ev_of_eq ih ?_)
                rw [decide_eq_decide, Mo.Lens.cons]; exact ⟨fun h => ⟨e, h⟩, fun h => h.2⟩
              · refine ev_neg e (ev_now ?_)
                symm; rw [decide_eq_false_iff_not, Mo.Lens.cons]; exact fun h => e h.1
          have hA : ∀ i, i ≤ A.length → Ev (fun k => spec_LoopValid.l0 k (i : Int) R C A D) (decide (Mo.Lens C (A.drop i) ∧ Mo.Lens R D)) := by
            refine up A.length ?_ ?_
            · refine Ev.step (fun _ => rfl) ?_
              simp only [spec_LoopValid.l0]
              refine ev_neg (by omega) (ev_of_eq (hD 0 (by omega)) ?_)
              rw [decide_eq_decide]; simp [Mo.Lens.nil]
            · intro i hi ih
              have e1 : rd_L1 A (i : Int) = A[i] := by unfold rd_L1; simp [hi]
              refine Ev.step (fun _ => rfl) ?_
              simp only [spec_LoopValid.l0]
              refine ev_pos (by omega) (ev_pos (by omega) (ev_pos (by omega) ?_))
              rw [e1, w64s (by omega), drop_step A i hi]
              by_cases e : (A[i].length : Int) = C
              · refine ev_pos e (ev_of_eq ih ?_)
                rw [decide_eq_decide, Mo.Lens.cons]; exact ⟨fun h => ⟨⟨e, h.1⟩, h.2⟩, fun h => ⟨h.1.2, h.2⟩⟩
              · refine ev_neg e (ev_now ?_)
                symm; rw [decide_eq_false_iff_not, Mo.Lens.cons]; exact fun h => e h.1.1
          refine Ev.step (fun _ => rfl) ?_
          simp only [spec_LoopValid.j0]
          refine ev_neg (by simp [h4]) (ev_of_eq (hA 0 (by omega)) ?_)
          rw [decide_eq_decide]
          exact ⟨fun h => ⟨h1, h2, h3, h4, by simpa using h.1, h.2⟩, fun h => ⟨by simpa using h.2.2.2.2.1, h.2.2.2.2.2⟩⟩
        · have e : ((D.length : Int) != C + 1) = true := by simpa using h4
          rw [e]; exact no (fun h => h4 h.2.2.2.1)
      · exact ev_neg h3 (no (fun h => h3 h.2.2.1))
    · exact ev_neg (by simpa using h2) (no (fun h => h2 h.2.1))
  · exact ev_neg (by simpa using h1) (no (fun h => h1 h.1))
theorem impl_LoopValid_ev (R C : Int) (A D : List (List Bool)) : Ev (fun k => impl_LoopValid.f k R C A D) (decide (Mo.FieldOk R C A D)) := by
  have no : ¬ Mo.FieldOk R C A D → Ev (fun k => impl_LoopValid.j0 k true R C A D) (decide (Mo.FieldOk R C A D)) := by
    intro h
    refine Ev.step (fun _ => rfl) ?_
    simp only [impl_LoopValid.j0]
    exact ev_pos trivial (ev_now (by simp [h]))
  unfold impl_LoopValid.f
  by_cases h1 : R < 1
  · exact ev_pos h1 (no (fun h => by have := h.1; omega))
  · refine ev_neg h1 ?_
    by_cases h1' : R > 4
    · exact ev_pos h1' (no (fun h => by have := h.1; omega))
    · refine ev_neg h1' ?_
      by_cases h2 : C < 1
      · exact ev_pos h2 (no (fun h => by have := h.2.1; omega))
      · refine ev_neg h2 ?_
        by_cases h2' : C > 4
        · exact ev_pos h2' (no (fun h => by have := h.2.1; omega))
        · refine ev_neg h2' ?_
          rw [w64 (n := R + 1) (by omega) (by omega), w64 (n := C + 1) (by omega) (by omega)]
          by_cases h3 : (A.length : Int) = R + 1
          · refine ev_pos h3 ?_
            by_cases h4 : (D.length : Int) = C + 1
            · have hD : ∀ i, i ≤ D.length → Ev (fun k => impl_LoopValid.l1 k D (D.length : Int) (i : Int) R C A D) (decide (Mo.Lens R (D.drop i))) := by
                refine up D.length ?_ ?_
                · refine Ev.step (fun _ => rfl) ?_
                  simp only [impl_LoopValid.l1]
                  exact ev_neg (by omega) (ev_now (by simp [Mo.Lens.nil]))
                · intro i hi ih
                  have e1 : rd_L1 D (i : Int) = D[i] := by unfold rd_L1; simp [hi]
                  refine Ev.step (fun _ => rfl) ?_
                  simp only [impl_LoopValid.l1]
                  refine ev_pos (by omega) (ev_pos (by omega) (ev_pos (by omega) ?_))
                  rw [e1, w64s (by omega), drop_step D i hi]
                  by_cases e : (D[i].length : Int) = R
                  · refine ev_pos e (ev_of_eq ih ?_)
                    rw [decide_eq_decide, Mo.Lens.cons]; exact ⟨fun h => ⟨e, h⟩, fun h => h.2⟩
                  · refine ev_neg e (ev_now ?_)
                    symm; rw [decide_eq_false_iff_not, Mo.Lens.cons]; exact fun h => e h.1
              have hA : ∀ i, i ≤ A.length → Ev (fun k => impl_LoopValid.l0 k A (A.length : Int) (i : Int) R C A D) (decide (Mo.Lens C (A.drop i) ∧ Mo.Lens R D)) := by
                refine up A.length ?_ ?_
                · refine Ev.step (fun _ => rfl) ?_
                  simp only [impl_LoopValid.l0]
                  refine ev_neg (by omega) (ev_of_eq (hD 0 (by omega)) ?_)
                  rw [decide_eq_decide]; simp [Mo.Lens.nil]
                · intro i hi ih
                  have e1 : rd_L1 A (i : Int) = A[i] := by unfold rd_L1; simp [hi]
                  refine Ev.step (fun _ => rfl) ?_
                  simp only [impl_LoopValid.l0]
                  refine ev_pos (by omega) (ev_pos (by omega) (ev_pos (by omega) ?_))
                  rw [e1, w64s (by omega), drop_step A i hi]
                  by_cases e : (A[i].length : Int) = C
                  · refine ev_pos e (ev_of_eq ih ?_)
                    rw [decide_eq_decide, Mo.Lens.cons]; exact ⟨fun h => ⟨⟨e, h.1⟩, h.2⟩, fun h => ⟨h.1.2, h.2⟩⟩
                  · refine ev_neg e (ev_now ?_)
                    symm; rw [decide_eq_false_iff_not, Mo.Lens.cons]; exact fun h => e h.1.1
              refine Ev.step (fun _ => rfl) ?_
              simp only [impl_LoopValid.j0]
              refine ev_neg (by simp [h4]) (ev_of_eq (hA 0 (by omega)) ?_)
              rw [decide_eq_decide]
              exact ⟨fun h => ⟨⟨by omega, by omega⟩, ⟨by omega, by omega⟩, h3, h4, by simpa using h.1, h.2⟩, fun h => ⟨by simpa using h.2.2.2.2.1, h.2.2.2.2.2⟩⟩
            · have e : ((D.length : Int) != C + 1) = true := by simpa using h4
              rw [e]; exact no (fun h => h4 h.2.2.2.1)
          · exact ev_neg h3 (no (fun h => h3 h.2.2.1))
theorem impl_LoopClues_l2 (R C : Nat) (A D : List (List Bool)) (r c n0 : Nat) (xs : List Int) (hx : xs.length ≤ 100) (bs : List Bool) (hb : bs.length ≤ 4) (res : List Int)
    (h : Ev (fun k => impl_LoopClues.l1 k (xs ++ [(Mo.cntB bs : Int)]) (r : Int) (R : Int) (r : Int) (C : Int) (wrap64 ((c : Int) + 1)) (R : Int) (C : Int) A D) res) :
    ∀ i, i ≤ bs.length → ∀ n : Nat, n ≤ i → n + Mo.cntB (bs.drop i) = Mo.cntB bs → Ev (fun k => impl_LoopClues.l2 k xs (r : Int) (n : Int) (R : Int) (r : Int) (C : Int) (c : Int) bs (bs.length : Int) (i : Int) (R : Int) (C : Int) A D) res := by
  refine up bs.length ?_ ?_
  · intro n _ hn
    rw [List.drop_length] at hn
    refine Ev.step (fun _ => rfl) ?_
    simp only [impl_LoopClues.l2]
    have : n = Mo.cntB bs := by simpa [Mo.cntB] using hn
    rw [this]
    exact ev_neg (by omega) (ev_pos (by omega) h)
  · intro i hi ih n hni hn
    rw [drop_step bs i hi] at hn
    refine Ev.step (fun _ => rfl) ?_
    simp only [impl_LoopClues.l2]
    rw [rdOf_nat false bs i hi, w64s (n := n) (by omega), w64s (n := i) (by omega)]
    refine ev_pos (by omega) (ev_pos (by omega) (ev_pos (by omega) ?_))
    simp only [Mo.cntB] at hn
    cases hv : bs[i] with
    | true => exact ev_pos rfl (ih (n + 1) (by omega) (by rw [hv] at hn; simp only [Mo.b2, if_true] at hn; omega))
    | false => exact ev_neg (by simp) (ih n (by omega) (by rw [hv] at hn; simpa [Mo.b2] using hn))
theorem impl_LoopClues_ev (R C : Int) (A D : List (List Bool)) : Ev (fun k => impl_LoopClues.f k R C A D) (if Mo.FieldOk R C A D then Mo.clues R.toNat C.toNat A D else []) := by
  unfold impl_LoopClues.f
  refine Ev.bind (impl_LoopValid_ev R C A D) ?_
  by_cases h : Mo.FieldOk R C A D
  · obtain ⟨R, C, rfl, rfl, hf⟩ := h.fld
    have hR := hf.hR; have hC := hf.hC; have lA := hf.lA; have lD := hf.lD
    have hm : R * C ≤ 4 * 4 := Nat.mul_le_mul hR.2 hC.2
    refine ev_pos (by simpa using h) ?_
    rw [if_pos h, Int.toNat_natCast, Int.toNat_natCast]
    have l1 : ∀ r, r < R → (Ev (fun k => impl_LoopClues.l0 k ((List.range ((r + 1) * C)).map fun i => (Mo.cl C A D i : Int)) (R : Int) (wrap64 ((r : Int) + 1)) (R : Int) (C : Int) A D) (Mo.clues R C A D)) →
        ∀ c, c ≤ C → Ev (fun k => impl_LoopClues.l1 k ((List.range (r * C + c)).map fun i => (Mo.cl C A D i : Int)) (r : Int) (R : Int) (r : Int) (C : Int) (c : Int) (R : Int) (C : Int) A D) (Mo.clues R C A D) := by
      intro r hr hgo
      have hb : r * C + C ≤ R * C := by
        have := Nat.mul_le_mul_right C (show r + 1 ≤ R from hr)
        rwa [Nat.succ_mul] at this
      refine up C ?_ ?_
      · refine Ev.step (fun _ => rfl) ?_
        simp only [impl_LoopClues.l1]
        rw [Nat.succ_mul] at hgo
        exact ev_neg (by omega) hgo
      · intro c hc ih
        refine Ev.step (fun _ => rfl) ?_
        simp only [impl_LoopClues.l1]
        have w1 : wrap64 ((r : Int) + 1) = ((r + 1 : Nat) : Int) := w64s (by omega)
        have w2 : wrap64 ((c : Int) + 1) = ((c + 1 : Nat) : Int) := w64s (by omega)
        have a1 : (rd_L1 A (r : Int)).length = C := hf.rA r (by omega)
        have a2 : (rd_L1 A ((r + 1 : Nat) : Int)).length = C := hf.rA (r + 1) (by omega)
        have d1 : (rd_L1 D (c : Int)).length = R := hf.rD c (by omega)
        have d2 : (rd_L1 D ((c + 1 : Nat) : Int)).length = R := hf.rD (c + 1) (by omega)
        rw [w1, w2]
        refine ev_pos (by omega) (ev_pos (by omega) (ev_pos (by omega) (ev_pos (by omega) (ev_pos (by omega) (ev_pos (by omega) (ev_pos (by omega) (ev_pos (by omega) (ev_pos (by omega) (ev_pos (by omega) (ev_pos (by omega) (ev_pos (by omega) (ev_pos (by omega) (ev_some ?_)))))))))))))
        refine impl_LoopClues_l2 R C A D r c 0 _ (by simp; omega) _ (by simp) _ ?_ 0 (by simp) 0 (by omega) (by simp)
        have e : ((List.range (r * C + c)).map fun i => (Mo.cl C A D i : Int)) ++ [(Mo.cntB [rdOf false (rd_L1 A (r : Int)) (c : Int), rdOf false (rd_L1 A ((r + 1 : Nat) : Int)) (c : Int), rdOf false (rd_L1 D (c : Int)) (r : Int), rdOf false (rd_L1 D ((c + 1 : Nat) : Int)) (r : Int)] : Int)] = (List.range (r * C + (c + 1))).map fun i => (Mo.cl C A D i : Int) := by
          rw [show r * C + (c + 1) = (r * C + c) + 1 from rfl, List.range_succ, List.map_append]
          congr 1
          simp only [List.map_cons, List.map_nil, List.cons.injEq, and_true]
          rw [Mo.cl_at A D r c hc]
          congr 1
          show Mo.b2 (Mo.ga A r c) + (Mo.b2 (Mo.ga A (r + 1) c) + (Mo.b2 (Mo.ga D c r) + (Mo.b2 (Mo.ga D (c + 1) r) + 0))) = Mo.b2 (Mo.ga A r c) + Mo.b2 (Mo.ga A (r + 1) c) + Mo.b2 (Mo.ga D c r) + Mo.b2 (Mo.ga D (c + 1) r)
          omega
        rw [e, w2]; exact ih
    have l0 : ∀ r, r ≤ R → Ev (fun k => impl_LoopClues.l0 k ((List.range (r * C)).map fun i => (Mo.cl C A D i : Int)) (R : Int) (r : Int) (R : Int) (C : Int) A D) (Mo.clues R C A D) := by
      refine up R ?_ ?_
      · refine Ev.step (fun _ => rfl) ?_
        simp only [impl_LoopClues.l0]
        exact ev_neg (by omega) (ev_now rfl)
      · intro r hr ih
        refine Ev.step (fun _ => rfl) ?_
        simp only [impl_LoopClues.l0]
        refine ev_pos (by omega) (l1 r hr ?_ 0 (by omega))
        rw [w64s (by omega)]; exact ih
    have := l0 0 (by omega)
    rw [Nat.zero_mul] at this
    exact this
  · refine ev_neg (by simpa using h) (ev_now ?_)
    rw [if_neg h]
theorem spec_LoopClues_l1 (R C : Nat) (A D : List (List Bool)) (q : Nat) (xs : List Int) (hx : xs.length ≤ 100) (bs : List Bool) (hb : bs.length = 4) (res : List Int)
    (h : Ev (fun k => spec_LoopClues.l0 k (xs ++ [(Mo.cntB bs : Int)]) (wrap64 ((q : Int) + 1)) (R : Int) (C : Int) A D) res) :
    ∀ i, i ≤ bs.length → ∀ n : Nat, n ≤ i → n + Mo.cntB (bs.drop i) = Mo.cntB bs → Ev (fun k => spec_LoopClues.l1 k xs (q : Int) bs (n : Int) (i : Int) (R : Int) (C : Int) A D) res := by
  refine up bs.length ?_ ?_
  · intro n _ hn
    rw [List.drop_length] at hn
    refine Ev.step (fun _ => rfl) ?_
    simp only [spec_LoopClues.l1]
    have : n = Mo.cntB bs := by simpa [Mo.cntB] using hn
    rw [this]
    exact ev_neg (by omega) (ev_pos (by omega) h)
  · intro i hi ih n hni hn
    rw [drop_step bs i hi] at hn
    refine Ev.step (fun _ => rfl) ?_
    simp only [spec_LoopClues.l1]
    rw [rdOf_nat false bs i hi, w64s (n := n) (by omega), w64s (n := i) (by omega)]
    refine ev_pos (by omega) (ev_pos (by omega) (ev_pos (by omega) ?_))
    simp only [Mo.cntB] at hn
    cases hv : bs[i] with
    | true => exact ev_pos rfl (ih (n + 1) (by omega) (by rw [hv] at hn; simp only [Mo.b2, if_true] at hn; omega))
    | false => exact ev_neg (by simp) (ih n (by omega) (by rw [hv] at hn; simpa [Mo.b2] using hn))
set_option maxHeartbeats 2000000 in
theorem spec_LoopClues_ev (R C : Int) (A D : List (List Bool)) : Ev (fun k => spec_LoopClues.f k R C A D) (if Mo.FieldOk R C A D then Mo.clues R.toNat C.toNat A D else []) := by
  unfold spec_LoopClues.f
  by_cases h : Mo.FieldOk R C A D
  · obtain ⟨R, C, rfl, rfl, hf⟩ := h.fld
    have hR := hf.hR; have hC := hf.hC; have lA := hf.lA; have lD := hf.lD
    have hm : R * C ≤ 4 * 4 := Nat.mul_le_mul hR.2 hC.2
    have W : ∀ n : Nat, n ≤ 100 → wrap64 (n : Int) = (n : Int) ∧ wrap64 ((n : Int) + 1) = ((n + 1 : Nat) : Int) := fun n hn => ⟨w64 (by omega) (by omega), w64s (by omega)⟩
    have hw := Mo.ix0 R C hR.2 hC.2
    rw [if_pos h, Int.toNat_natCast, Int.toNat_natCast]
    have l0 : ∀ q, q ≤ R * C → Ev (fun k => spec_LoopClues.l0 k ((List.range q).map fun i => (Mo.cl C A D i : Int)) (q : Int) (R : Int) (C : Int) A D) (Mo.clues R C A D) := by
      refine up (R * C) ?_ ?_
      · refine Ev.step (fun _ => rfl) ?_
        simp only [spec_LoopClues.l0]
        refine Ev.bind (spec_LoopValid_ev _ _ A D) (ev_pos (by simpa using h) (Ev.step (fun _ => rfl) ?_))
        simp only [spec_LoopClues.j1]
        rw [hw]
        exact ev_neg (by simp) (ev_now rfl)
      · intro q hq ih
        have hr : q / C < R := (Nat.div_lt_iff_lt_mul (by omega)).2 hq
        have hc : q % C < C := Nat.mod_lt _ (by omega)
        obtain ⟨r, er⟩ : ∃ r, r = q / C := ⟨_, rfl⟩
        obtain ⟨c, ec⟩ : ∃ c, c = q % C := ⟨_, rfl⟩
        have ecl : Mo.cl C A D q = Mo.clue A D r c := by unfold Mo.cl; rw [er, ec]
        rw [← er] at hr
        rw [← ec] at hc
        have T : Int.tdiv (q : Int) (C : Int) = (r : Int) ∧ Int.tmod (q : Int) (C : Int) = (c : Int) :=
          ⟨by rw [Int.tdiv_eq_ediv_of_nonneg (Int.natCast_nonneg q), er]; rfl, by rw [Int.tmod_eq_emod_of_nonneg (Int.natCast_nonneg q), ec]; rfl⟩
        clear er ec
        refine Ev.step (fun _ => rfl) ?_
        simp only [spec_LoopClues.l0]
        refine Ev.bind (spec_LoopValid_ev _ _ A D) (ev_pos (by simpa using h) (Ev.step (fun _ => rfl) ?_))
        simp only [spec_LoopClues.j1]
        rw [hw, T.1, T.2]
        clear T
        have a1 : (rd_L1 A (r : Int)).length = C := hf.rA r (by omega)
        have a2 : (rd_L1 A ((r + 1 : Nat) : Int)).length = C := hf.rA (r + 1) (by omega)
        have d1 : (rd_L1 D (c : Int)).length = R := hf.rD c (by omega)
        have d2 : (rd_L1 D ((c + 1 : Nat) : Int)).length = R := hf.rD (c + 1) (by omega)
        rw [(W r (by omega)).1, (W r (by omega)).2, (W c (by omega)).2]
        refine ev_pos (by simp; omega) (ev_neg (by omega) ?_)
        refine ev_pos (by omega) (ev_pos (by omega) (ev_pos (by omega) (ev_pos (by omega) (ev_pos (by omega) (ev_pos (by omega) (ev_pos (by omega) (ev_pos (by omega) (ev_pos (by omega) (ev_pos (by omega) (ev_pos (by omega) (ev_pos (by omega) ?_)))))))))))
        refine spec_LoopClues_l1 R C A D q _ (by simp; omega) _ (by simp) _ ?_ 0 (by simp) 0 (by omega) (by simp)
        have e : ((List.range q).map fun i => (Mo.cl C A D i : Int)) ++ [(Mo.cntB [rdOf false (rd_L1 A (r : Int)) (c : Int), rdOf false (rd_L1 A ((r + 1 : Nat) : Int)) (c : Int), rdOf false (rd_L1 D (c : Int)) (r : Int), rdOf false (rd_L1 D ((c + 1 : Nat) : Int)) (r : Int)] : Int)] = (List.range (q + 1)).map fun i => (Mo.cl C A D i : Int) := by
          rw [List.range_succ, List.map_append]
          congr 1
          simp only [List.map_cons, List.map_nil, List.cons.injEq, and_true]
          rw [ecl]
          congr 1
          show Mo.b2 (Mo.ga A r c) + (Mo.b2 (Mo.ga A (r + 1) c) + (Mo.b2 (Mo.ga D c r) + (Mo.b2 (Mo.ga D (c + 1) r) + 0))) = Mo.b2 (Mo.ga A r c) + Mo.b2 (Mo.ga A (r + 1) c) + Mo.b2 (Mo.ga D c r) + Mo.b2 (Mo.ga D (c + 1) r)
          omega
        rw [e, (W q (by omega)).2]; exact ih
    exact l0 0 (by omega)
  · rw [if_neg h]
    refine Ev.step (fun _ => rfl) ?_
    simp only [spec_LoopClues.l0]
    refine Ev.bind (spec_LoopValid_ev _ _ A D) (ev_neg (by simpa using h) (Ev.step (fun _ => rfl) ?_))
    simp only [spec_LoopClues.j1]
    exact ev_neg (by simp) (ev_now rfl)
def bmarks (m : Int) (n : Nat) : List Bool := (List.range n).map fun i => (Int.tmod (m + ((i : Nat) : Int)) 3) == 0
theorem bmarks_length (m : Int) (n : Nat) : (bmarks m n).length = n := by simp [bmarks]
theorem bmarks_succ (m : Int) (n : Nat) : bmarks m (n + 1) = bmarks m n ++ [(Int.tmod (m + n) 3) == 0] := by simp [bmarks, List.range_succ]
theorem laws_markBoolS_ev (l : List Bool) (m : Int) (h0 : 0 ≤ m) (hm : m + l.length ≤ 4611686018427387904) : Ev (fun k => laws_markBoolS.f k l m) (m + l.length, bmarks m l.length) := by
  have key : ∀ i, i ≤ l.length → Ev (fun k => laws_markBoolS.l0 k (bmarks m i ++ l.drop i) (m + i) (i : Int)) (m + l.length, bmarks m l.length) := by
    refine up l.length ?_ ?_
    · refine Ev.step (fun _ => rfl) ?_
      simp only [laws_markBoolS.l0]
      exact ev_neg (by simp [bmarks_length]) (ev_now (by simp))
    · intro i hi ih
      refine Ev.step (fun _ => rfl) ?_
      simp only [laws_markBoolS.l0]
      refine ev_pos (by simp [bmarks_length]; omega) (ev_pos (by omega) ?_)
      rw [w64s (by omega), w64 (n := m + i + 1) (by omega) (by omega)]
      have e : (bmarks m i ++ l.drop i).set ((i : Int)).toNat ((Int.tmod (m + i) 3) == 0) = bmarks m (i + 1) ++ l.drop (i + 1) := by
        rw [Int.toNat_natCast, List.set_append_right _ _ (by simp [bmarks_length]), bmarks_length, Nat.sub_self, drop_step l i hi, List.set_cons_zero, bmarks_succ, List.append_assoc]; rfl
      rw [e, show m + (i : Int) + 1 = m + ((i + 1 : Nat) : Int) by omega]
      exact ih
  unfold laws_markBoolS.f
  simpa [bmarks] using key 0 (by omega)
theorem laws_markBoolSS_ev (l : List (List Bool)) (m : Int) (hs : Mo.Short l) (h0 : 0 ≤ m) (hm : m ≤ 2305843009213693952) : ∃ r l', Ev (fun k => laws_markBoolSS.f k l m) (r, l') ∧ m ≤ r ∧ r ≤ m + 1099511627776 := by
  obtain ⟨hl, hr⟩ := hs
  have key : ∀ i, i ≤ l.length → ∀ (x : List (List Bool)) (q : Int), x.length = l.length → (∀ y ∈ x, y.length ≤ 1048576) → m ≤ q → q ≤ m + 1048576 * i → ∃ r l', Ev (fun k => laws_markBoolSS.l0 k x q (i : Int)) (r, l') ∧ m ≤ r ∧ r ≤ m + 1048576 * l.length := by
    refine up l.length ?_ ?_
    · intro x q hx hy q0 q1
      refine ⟨q, x, Ev.step (fun _ => rfl) ?_, q0, q1⟩
      simp only [laws_markBoolSS.l0]
      exact ev_neg (by omega) (ev_now rfl)
    · intro i hi ih x q hx hy q0 q1
      have hxi : i < x.length := by omega
      have hmem : x[i].length ≤ 1048576 := hy _ (List.getElem_mem hxi)
      have hm1 := laws_markBoolS_ev x[i] q (by omega) (by omega)
      obtain ⟨r, l', he, r0, r1⟩ := ih (x.set i (bmarks q x[i].length)) (q + x[i].length) (by simpa using hx) (fun y hy2 => by
        rcases List.mem_or_eq_of_mem_set hy2 with h | rfl
        · exact hy y h
        · rw [bmarks_length]; exact hmem) (by omega) (by omega)
      refine ⟨r, l', Ev.step (fun _ => rfl) ?_, r0, r1⟩
      simp only [laws_markBoolSS.l0]
      have e1 : x.getD (i : Int).toNat [] = x[i] := by rw [Int.toNat_natCast]; simp [hxi]
      rw [e1, w64s (by omega), Int.toNat_natCast]
      exact ev_pos (by omega) (ev_pos (by omega) (Ev.bind hm1 he))
  obtain ⟨r, l', he, r0, r1⟩ := key 0 (by omega) l m rfl hr (by omega) (by omega)
  exact ⟨r, l', he, r0, by omega⟩
theorem laws_markLoop_ev (R C : Int) (A D : List (List Bool)) (m : Int) (hA : Mo.Short A) (hD : Mo.Short D) (h0 : 0 ≤ m) (hm : m ≤ 1000) : ∃ r l l', Ev (fun k => laws_markLoop.f k R C A D m) (r, l, l') ∧ 0 ≤ r := by
  unfold laws_markLoop.f
  obtain ⟨r, l, h1, r0, r1⟩ := laws_markBoolSS_ev A m hA h0 (by omega)
  obtain ⟨r', l', h2, r0', r1'⟩ := laws_markBoolSS_ev D r hD (by omega) (by omega)
  exact ⟨r', l, l', Ev.bind h1 (Ev.bind h2 (ev_now rfl)), by omega⟩
end XFnExactLoopClues
open XFnExactLoopClues
theorem FnExactLoopClues (R C : Int) (A D : List (List Bool)) (hA : A.length ≤ 9223372036854775807) (hA2 : ∀ x ∈ A, x.length ≤ 9223372036854775807) (hD : D.length ≤ 9223372036854775807) (hD2 : ∀ x ∈ D, x.length ≤ 9223372036854775807) :
    ∃ k, laws_FnExactLoopClues.f k R C A D = some true := by
  apply Ev.rounds
  unfold laws_FnExactLoopClues.f
  obtain ⟨r, hr, h⟩ := laws_szLoop_ev R C A D hA hA2 hD hD2
  refine Ev.bind hr ?_
  rcases h with h | ⟨h, sA, sD⟩
  · exact ev_pos h (ev_now rfl)
  · obtain ⟨x, hx, hl, hi, hs⟩ : ∃ x : List Int, x.length ≤ 16 ∧ Ev (fun k => impl_LoopClues.f k R C A D) x ∧ Ev (fun k => spec_LoopClues.f k R C A D) x ∧ True := by
      have h1 := impl_LoopClues_ev R C A D
      have h2 := spec_LoopClues_ev R C A D
      refine ⟨_, ?_, h1, h2, trivial⟩
      by_cases h : Mo.FieldOk R C A D
      · rw [if_pos h, Mo.clues_length]
        obtain ⟨R', C', rfl, rfl, hf⟩ := h.fld
        have := Nat.mul_le_mul hf.hR.2 hf.hC.2
        simpa using this
      · rw [if_neg h]; simp
    obtain ⟨r2, m2, m3, hm, hm0⟩ := laws_markLoop_ev R C A D 1 sA sD (by omega) (by omega)
    refine ev_neg (by omega) (Ev.bind (laws_toLoop_ev R C A D sA sD) (Ev.bind hi (Ev.bind (laws_toLoop_ev R C A D sA sD) (Ev.bind hl (Ev.bind (laws_eqIntS_ev x x (by omega)) (ev_pos (by simp) (Ev.bind (laws_toLoop_ev R C A D sA sD) (Ev.bind (laws_eqLoop_same R C A D sA sD) (ev_pos rfl (Ev.bind hm (ev_neg (show ¬ r2 < 0 by omega) (Ev.bind (laws_eqIntS_ev x x (by omega)) (Ev.step (fun _ => rfl) ?_)))))))))))))
    simp only [laws_FnExactLoopClues.j0]
    have hheld := laws_heldIntS_ev 1 x.length (by omega) (by omega)
    exact ev_neg (by simp) (Ev.bind (laws_markIntS_ev x 1 (by omega) (by omega)) (Ev.bind hheld (ev_neg (by omega) (ev_pos rfl (Ev.bind (laws_toLoop_ev R C A D sA sD) (Ev.bind hl (Ev.bind (laws_eqIntS_ev x x (by omega)) (ev_pos (by simp) (Ev.bind hheld (ev_neg (by omega) (ev_pos rfl (ev_now rfl))))))))))))

end Go.Proofs.Ytncmneliinbjdaa.Pure
