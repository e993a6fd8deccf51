/- FnExactLoopLength's pure law: both programs count the same edges. Its conditions: lengths that a slice can have. -/
import Derived.Test.YtdinbpfklikghaaPFnExactLoopLengthx6
import Derived.Test.YtdinbpfklikghaaMo
import Derived.Test.YtdinbpfklikghaaLo
set_option linter.unusedSimpArgs false
set_option linter.unusedVariables false
set_option maxRecDepth 4000
namespace Go.Proofs.Ytdinbpfklikghaa.Pure
open Go.RowKit Go.Proofs.Ytdinbpfklikghaa.PFnExactLoopLength Go.Proofs.Ytdinbpfklikghaa.Pk Go.Proofs.Ytdinbpfklikghaa.Mo Go.Proofs.YtdinbpfklikghaaW.PrintWords Go.Proofs.YtdinbpfklikghaaW.PrintLast

namespace XFnExactLoopLength
theorem spec_l1In_eq (n lo hi : Int) : spec_l1In.f n lo hi = some (decide (lo ≤ n ∧ n ≤ hi)) := by
  unfold spec_l1In.f
  by_cases h : n ≥ lo
  · rw [if_pos h]; simp [show lo ≤ n from h]
  · rw [if_neg h]; simp [show ¬ lo ≤ n from h]
theorem laws_szBoolS_eq (l : List Bool) (m : Int) (h0 : 0 ≤ m) (hm : m ≤ 1048576) (hl : l.length ≤ 9223372036854775807) :
    laws_szBoolS.f l m = some (if (l.length : Int) ≤ m then m - l.length else -1) := by
  unfold laws_szBoolS.f
  rw [w64 (by omega) (by omega)]
  by_cases h : (l.length : Int) ≤ m
  · rw [if_neg (by omega), if_pos h]
  · rw [if_pos (by omega), if_neg h]
theorem laws_szBoolSS_ev (l : List (List Bool)) (m : Int) (h0 : 0 ≤ m) (hm : m ≤ 1048576) (hl : l.length ≤ 9223372036854775807) (hr : ∀ x ∈ l, x.length ≤ 9223372036854775807) :
    ∃ r, Ev (fun k => laws_szBoolSS.f k l m) r ∧ (r < 0 ∨ 0 ≤ r ∧ r ≤ m ∧ Mo.Short l) := by
  unfold laws_szBoolSS.f
  rw [w64 (by omega) (by omega)]
  by_cases h : m - (l.length : Int) < 0
  · exact ⟨-1, ev_pos h (ev_now rfl), .inl (by omega)⟩
  · have key : ∀ i, i ≤ l.length → ∀ q : Int, 0 ≤ q → q ≤ m → ∃ r, Ev (fun k => laws_szBoolSS.l0 k l q (i : Int)) r ∧ (r < 0 ∨ 0 ≤ r ∧ r ≤ m ∧ ∀ x ∈ l.drop i, x.length ≤ 1048576) := by
      refine up l.length ?_ ?_
      · intro q q0 q1
        refine ⟨q, Ev.step (fun _ => rfl) ?_, .inr ⟨q0, q1, by simp⟩⟩
        simp only [laws_szBoolSS.l0]
        exact ev_neg (by omega) (ev_now rfl)
      · intro i hi ih q q0 q1
        have e1 : rd_L1 l (i : Int) = l[i] := by unfold rd_L1; simp [hi]
        have hx := hr l[i] (List.getElem_mem _)
        have hs := laws_szBoolS_eq l[i] q q0 (by omega) hx
        by_cases hq : (l[i].length : Int) ≤ q
        · rw [if_pos hq] at hs
          obtain ⟨r, hev, hr2⟩ := ih (q - l[i].length) (by omega) (by omega)
          refine ⟨r, Ev.step (fun _ => rfl) ?_, ?_⟩
          · simp only [laws_szBoolSS.l0]
            refine ev_pos (by omega) (ev_pos (by omega) ?_)
            rw [e1, w64s (by omega)]
            exact ev_bindc hs (ev_neg (by omega) hev)
          · rcases hr2 with hr2 | ⟨a, b, c⟩
            · exact .inl hr2
            · refine .inr ⟨a, b, ?_⟩
              rw [drop_step l i hi]
              intro x hx2
              rcases List.mem_cons.1 hx2 with rfl | hx2
              · omega
              · exact c x hx2
        · rw [if_neg hq] at hs
          refine ⟨-1, Ev.step (fun _ => rfl) ?_, .inl (by omega)⟩
          simp only [laws_szBoolSS.l0]
          refine ev_pos (by omega) (ev_pos (by omega) ?_)
          rw [e1]
          exact ev_bindc hs (ev_pos (by omega) (ev_now rfl))
    obtain ⟨r, hev, hr2⟩ := key 0 (by omega) (m - l.length) (by omega) (by omega)
    refine ⟨r, ev_neg h hev, ?_⟩
    rcases hr2 with hr2 | ⟨a, b, c⟩
    · exact .inl hr2
    · exact .inr ⟨a, b, by omega, by simpa using c⟩
theorem laws_szLoop_ev (R C : Int) (A D : List (List Bool)) (hA : A.length ≤ 9223372036854775807) (hA2 : ∀ x ∈ A, x.length ≤ 9223372036854775807) (hD : D.length ≤ 9223372036854775807) (hD2 : ∀ x ∈ D, x.length ≤ 9223372036854775807) :
    ∃ r, Ev (fun k => laws_szLoop.f k R C A D 1048576) r ∧ (r < 0 ∨ 0 ≤ r ∧ Mo.Short A ∧ Mo.Short D) := by
  unfold laws_szLoop.f
  obtain ⟨r, hr, h⟩ := laws_szBoolSS_ev A 1048576 (by omega) (by omega) hA hA2
  rcases h with h | ⟨a, b, c⟩
  · exact ⟨-1, Ev.bind hr (ev_pos h (ev_now rfl)), .inl (by omega)⟩
  · obtain ⟨r', hr', h'⟩ := laws_szBoolSS_ev D r a (by omega) hD hD2
    rcases h' with h' | ⟨a', b', c'⟩
    · exact ⟨-1, Ev.bind hr (ev_neg (by omega) (Ev.bind hr' (ev_pos h' (ev_now rfl)))), .inl (by omega)⟩
    · exact ⟨r', Ev.bind hr (ev_neg (by omega) (Ev.bind hr' (ev_neg (by omega) (ev_now rfl)))), .inr ⟨a', c, c'⟩⟩
theorem laws_toBoolS_ev (a : List Bool) (ha : a.length ≤ 281474976710656) : Ev (fun k => laws_toBoolS.f k a) a := by
  have key : ∀ i, i ≤ a.length → Ev (fun k => laws_toBoolS.l0 k a (a.take i ++ List.replicate (a.length - i) false) (i : Int)) a := by
    refine up a.length ?_ ?_
    · refine Ev.step (fun _ => rfl) ?_
      simp only [laws_toBoolS.l0]
      refine ev_neg (by omega) (ev_now ?_)
      simp
    · intro i hi ih
      refine Ev.step (fun _ => rfl) ?_
      simp only [laws_toBoolS.l0]
      refine ev_pos (by omega) (ev_pos (by omega) (ev_pos (by simp; omega) ?_))
      rw [rdOf_nat false a i hi, w64s (by omega), Int.toNat_natCast]
      have e : (a.take i ++ List.replicate (a.length - i) false).set i a[i] = a.take (i + 1) ++ List.replicate (a.length - (i + 1)) false := by
        rw [List.set_append_right _ _ (by simp; omega)]
        have h1 : i - (a.take i).length = 0 := by simp; omega
        rw [h1]
        obtain ⟨m, hm⟩ : ∃ m, a.length - i = m + 1 := ⟨a.length - i - 1, by omega⟩
        have h2 : a.length - (i + 1) = m := by omega
        rw [hm, List.replicate_succ, List.set_cons_zero, List.take_succ_eq_append_getElem hi, h2, List.append_assoc]; rfl
      rw [e]; exact ih
  unfold laws_toBoolS.f
  refine ev_pos (by omega) (ev_pos (by omega) ?_)
  have := key 0 (by omega)
  simpa using this
theorem laws_toBoolSS_ev (a : List (List Bool)) (ha : Mo.Short a) : Ev (fun k => laws_toBoolSS.f k a) a := by
  obtain ⟨ha, ha2⟩ := ha
  have key : ∀ i, i ≤ a.length → Ev (fun k => laws_toBoolSS.l0 k a (a.take i ++ List.replicate (a.length - i) []) (i : Int)) a := by
    refine up a.length ?_ ?_
    · refine Ev.step (fun _ => rfl) ?_
      simp only [laws_toBoolSS.l0]
      refine ev_neg (by omega) (ev_now ?_)
      simp
    · intro i hi ih
      have e1 : rd_L1 a (i : Int) = a[i] := by unfold rd_L1; simp [hi]
      have hx := ha2 a[i] (List.getElem_mem _)
      refine Ev.step (fun _ => rfl) ?_
      simp only [laws_toBoolSS.l0]
      refine ev_pos (by omega) (ev_pos (by omega) ?_)
      rw [e1, w64s (by omega), Int.toNat_natCast]
      refine Ev.bind (laws_toBoolS_ev a[i] (by omega)) (ev_pos (by simp; omega) ?_)
      have e : (a.take i ++ List.replicate (a.length - i) []).set i a[i] = a.take (i + 1) ++ List.replicate (a.length - (i + 1)) [] := by
        rw [List.set_append_right _ _ (by simp; omega)]
        have h1 : i - (a.take i).length = 0 := by simp; omega
        rw [h1]
        obtain ⟨m, hm⟩ : ∃ m, a.length - i = m + 1 := ⟨a.length - i - 1, by omega⟩
        have h2 : a.length - (i + 1) = m := by omega
        rw [hm, List.replicate_succ, List.set_cons_zero, List.take_succ_eq_append_getElem hi, h2, List.append_assoc]; rfl
      rw [e]; exact ih
  unfold laws_toBoolSS.f
  refine ev_pos (by omega) (ev_pos (by omega) ?_)
  have := key 0 (by omega)
  simpa using this
theorem laws_toLoop_ev (R C : Int) (A D : List (List Bool)) (hA : Mo.Short A) (hD : Mo.Short D) : Ev (fun k => laws_toLoop.f k R C A D) (R, C, A, D) := by
  unfold laws_toLoop.f
  exact Ev.bind (laws_toBoolSS_ev A hA) (Ev.bind (laws_toBoolSS_ev D hD) (ev_now rfl))
theorem laws_eqBoolS_ev (a b : List Bool) (ha : a.length ≤ 4611686018427387904) : Ev (fun k => laws_eqBoolS.f k a b) (decide (a = b)) := by
  have key : b.length = a.length → ∀ i, i ≤ a.length → Ev (fun k => laws_eqBoolS.l0 k a b (i : Int)) (decide (a.drop i = b.drop i)) := by
    intro hl
    refine up a.length ?_ ?_
    · refine Ev.step (fun _ => rfl) ?_
      simp only [laws_eqBoolS.l0]
      refine ev_neg (by omega) (ev_now ?_)
      rw [List.drop_length, ← hl, List.drop_length]; simp
    · intro i hi ih
      refine Ev.step (fun _ => rfl) ?_
      simp only [laws_eqBoolS.l0]
      refine ev_pos (by omega) (ev_pos (by omega) (ev_pos (by omega) ?_))
      rw [rdOf_nat false a i hi, rdOf_nat false b i (by omega), w64s (by omega), drop_step a i hi, drop_step b i (by omega)]
      by_cases e : a[i] = b[i]
      · refine ev_neg (by simp [e]) (ev_of_eq ih ?_); rw [decide_eq_decide, List.cons.injEq]; exact ⟨fun h => ⟨e, h⟩, fun h => h.2⟩
      · refine ev_pos (by simp [e]) (ev_now ?_); symm; rw [decide_eq_false_iff_not, List.cons.injEq]; exact fun h => e h.1
  unfold laws_eqBoolS.f
  by_cases hl : b.length = a.length
  · exact ev_pos (by omega) (by simpa using key hl 0 (by omega))
  · refine ev_neg (by omega) (ev_now ?_)
    have : a ≠ b := fun e => hl (by rw [e])
    simp [this]
theorem laws_eqBoolSS_ev (a b : List (List Bool)) (ha : Mo.Short a) : Ev (fun k => laws_eqBoolSS.f k a b) (decide (a = b)) := by
  obtain ⟨ha, ha2⟩ := ha
  have key : b.length = a.length → ∀ i, i ≤ a.length → Ev (fun k => laws_eqBoolSS.l0 k a b (i : Int)) (decide (a.drop i = b.drop i)) := by
    intro hl
    refine up a.length ?_ ?_
    · refine Ev.step (fun _ => rfl) ?_
      simp only [laws_eqBoolSS.l0]
      refine ev_neg (by omega) (ev_now ?_)
      rw [List.drop_length, ← hl, List.drop_length]; simp
    · intro i hi ih
      have e1 : rd_L1 a (i : Int) = a[i] := by unfold rd_L1; simp [hi]
      have e2 : rd_L1 b (i : Int) = b[i]'(by omega) := by unfold rd_L1; simp [hl, hi]
      have hx := ha2 a[i] (List.getElem_mem _)
      refine Ev.step (fun _ => rfl) ?_
      simp only [laws_eqBoolSS.l0]
      refine ev_pos (by omega) (ev_pos (by omega) (ev_pos (by omega) ?_))
      rw [e1, e2, w64s (by omega), drop_step a i hi, drop_step b i (by omega)]
      refine Ev.bind (laws_eqBoolS_ev _ _ (by omega)) ?_
      by_cases e : a[i] = b[i]
      · refine ev_pos (by simp [e]) (ev_of_eq ih ?_); rw [decide_eq_decide, List.cons.injEq]; exact ⟨fun h => ⟨e, h⟩, fun h => h.2⟩
      · refine ev_neg (by simp [e]) (ev_now ?_); symm; rw [decide_eq_false_iff_not, List.cons.injEq]; exact fun h => e h.1
  unfold laws_eqBoolSS.f
  by_cases hl : b.length = a.length
  · exact ev_pos (by omega) (by simpa using key hl 0 (by omega))
  · refine ev_neg (by omega) (ev_now ?_)
    have : a ≠ b := fun e => hl (by rw [e])
    simp [this]
theorem laws_eqLoop_ev (R C : Int) (A D : List (List Bool)) (R' C' : Int) (A' D' : List (List Bool)) (hA : Mo.Short A) (hD : Mo.Short D) :
    Ev (fun k => laws_eqLoop.f k R C A D R' C' A' D') (decide (R = R' ∧ C = C' ∧ A = A' ∧ D = D')) := by
  unfold laws_eqLoop.f
  by_cases h1 : R = R'
  · refine ev_pos h1 ?_
    by_cases h2 : C = C'
    · refine ev_pos h2 (Ev.bind (laws_eqBoolSS_ev A A' hA) ?_)
      by_cases h3 : A = A'
      · refine ev_pos (by simp [h3]) (Ev.bind (laws_eqBoolSS_ev D D' hD) ?_)
        by_cases h4 : D = D'
        · exact ev_pos (by simp [h4]) (ev_now (by simp [h1, h2, h3, h4]))
        · exact ev_neg (by simp [h4]) (ev_now (by simp [h4]))
      · exact ev_neg (by simp [h3]) (ev_now (by simp [h3]))
    · exact ev_neg h2 (ev_now (by simp [h2]))
  · exact ev_neg h1 (ev_now (by simp [h1]))
theorem laws_eqLoop_same (R C : Int) (A D : List (List Bool)) (hA : Mo.Short A) (hD : Mo.Short D) : Ev (fun k => laws_eqLoop.f k R C A D R C A D) true :=
  ev_of_eq (laws_eqLoop_ev R C A D R C A D hA hD) (by simp)
theorem spec_LoopValid_ev (R C : Int) (A D : List (List Bool)) : Ev (fun k => spec_LoopValid.f k R C A D) (decide (Mo.FieldOk R C A D)) := by
  have no : ¬ Mo.FieldOk R C A D → Ev (fun k => spec_LoopValid.j0 k true R C A D) (decide (Mo.FieldOk R C A D)) := by
    intro h
    refine Ev.step (fun _ => rfl) ?_
    simp only [spec_LoopValid.j0]
    exact ev_pos trivial (ev_now (by simp [h]))
  unfold spec_LoopValid.f
  refine ev_bindc (spec_l1In_eq _ _ _) ?_
  by_cases h1 : 1 ≤ R ∧ R ≤ 4
  · refine ev_pos (by simpa using h1) (ev_bindc (spec_l1In_eq _ _ _) ?_)
    by_cases h2 : 1 ≤ C ∧ C ≤ 4
    · refine ev_pos (by simpa using h2) ?_
      rw [w64 (n := R + 1) (by omega) (by omega), w64 (n := C + 1) (by omega) (by omega)]
      by_cases h3 : (A.length : Int) = R + 1
      · refine ev_pos h3 ?_
        by_cases h4 : (D.length : Int) = C + 1
        · have hD : ∀ i, i ≤ D.length → Ev (fun k => spec_LoopValid.l1 k (i : Int) R C A D) (decide (Mo.Lens R (D.drop i))) := by
            refine up D.length ?_ ?_
            · refine Ev.step (fun _ => rfl) ?_
              simp only [spec_LoopValid.l1]
              exact ev_neg (by omega) (ev_now (by simp [Mo.Lens.nil]))
            · intro i hi ih
              have e1 : rd_L1 D (i : Int) = D[i] := by unfold rd_L1; simp [hi]
              refine Ev.step (fun _ => rfl) ?_
              simp only [spec_LoopValid.l1]
              refine ev_pos (by omega) (ev_pos (by omega) (ev_pos (by omega) ?_))
              rw [e1, w64s (by omega), drop_step D i hi]
              by_cases e : (D[i].length : Int) = R
              · refine ev_pos e (ev_of_eq ih ?_)
                rw [decide_eq_decide, Mo.Lens.cons]; exact ⟨fun h => ⟨e, h⟩, fun h => h.2⟩
              · refine ev_neg e (ev_now ?_)
                symm; rw [decide_eq_false_iff_not, Mo.Lens.cons]; exact fun h => e h.1
          have hA : ∀ i, i ≤ A.length → Ev (fun k => spec_LoopValid.l0 k (i : Int) R C A D) (decide (Mo.Lens C (A.drop i) ∧ Mo.Lens R D)) := by
            refine up A.length ?_ ?_
            · refine Ev.step (fun _ => rfl) ?_
              simp only [spec_LoopValid.l0]
              refine ev_neg (by omega) (ev_of_eq (hD 0 (by omega)) ?_)
              rw [decide_eq_decide]; simp [Mo.Lens.nil]
            · intro i hi ih
              have e1 : rd_L1 A (i : Int) = A[i] := by unfold rd_L1; simp [hi]
              refine Ev.step (fun _ => rfl) ?_
              simp only [spec_LoopValid.l0]
              refine ev_pos (by omega) (ev_pos (by omega) (ev_pos (by omega) ?_))
              rw [e1, w64s (by omega), drop_step A i hi]
              by_cases e : (A[i].length : Int) = C
              · refine ev_pos e (ev_of_eq ih ?_)
                rw [decide_eq_decide, Mo.Lens.cons]; exact ⟨fun h => ⟨⟨e, h.1⟩, h.2⟩, fun h => ⟨h.1.2, h.2⟩⟩
              · refine ev_neg e (ev_now ?_)
                symm; rw [decide_eq_false_iff_not, Mo.Lens.cons]; exact fun h => e h.1.1
          refine Ev.step (fun _ => rfl) ?_
          simp only [spec_LoopValid.j0]
          refine ev_neg (by simp [h4]) (ev_of_eq (hA 0 (by omega)) ?_)
          rw [decide_eq_decide]
          exact ⟨fun h => ⟨h1, h2, h3, h4, by simpa using h.1, h.2⟩, fun h => ⟨by simpa using h.2.2.2.2.1, h.2.2.2.2.2⟩⟩
        · have e : ((D.length : Int) != C + 1) = true := by simpa using h4
          rw [e]; exact no (fun h => h4 h.2.2.2.1)
      · exact ev_neg h3 (no (fun h => h3 h.2.2.1))
    · exact ev_neg (by simpa using h2) (no (fun h => h2 h.2.1))
  · exact ev_neg (by simpa using h1) (no (fun h => h1 h.1))
theorem impl_LoopValid_ev (R C : Int) (A D : List (List Bool)) : Ev (fun k => impl_LoopValid.f k R C A D) (decide (Mo.FieldOk R C A D)) := by
  have no : ¬ Mo.FieldOk R C A D → Ev (fun k => impl_LoopValid.j0 k true R C A D) (decide (Mo.FieldOk R C A D)) := by
    intro h
    refine Ev.step (fun _ => rfl) ?_
    simp only [impl_LoopValid.j0]
    exact ev_pos trivial (ev_now (by simp [h]))
  unfold impl_LoopValid.f
  by_cases h1 : R < 1
  · exact ev_pos h1 (no (fun h => by have := h.1; omega))
  · refine ev_neg h1 ?_
    by_cases h1' : R > 4
    · exact ev_pos h1' (no (fun h => by have := h.1; omega))
    · refine ev_neg h1' ?_
      by_cases h2 : C < 1
      · exact ev_pos h2 (no (fun h => by have := h.2.1; omega))
      · refine ev_neg h2 ?_
        by_cases h2' : C > 4
        · exact ev_pos h2' (no (fun h => by have := h.2.1; omega))
        · refine ev_neg h2' ?_
          rw [w64 (n := R + 1) (by omega) (by omega), w64 (n := C + 1) (by omega) (by omega)]
          by_cases h3 : (A.length : Int) = R + 1
          · refine ev_pos h3 ?_
            by_cases h4 : (D.length : Int) = C + 1
            · have hD : ∀ i, i ≤ D.length → Ev (fun k => impl_LoopValid.l1 k D (D.length : Int) (i : Int) R C A D) (decide (Mo.Lens R (D.drop i))) := by
                refine up D.length ?_ ?_
                · refine Ev.step (fun _ => rfl) ?_
                  simp only [impl_LoopValid.l1]
                  exact ev_neg (by omega) (ev_now (by simp [Mo.Lens.nil]))
                · intro i hi ih
                  have e1 : rd_L1 D (i : Int) = D[i] := by unfold rd_L1; simp [hi]
                  refine Ev.step (fun _ => rfl) ?_
                  simp only [impl_LoopValid.l1]
                  refine ev_pos (by omega) (ev_pos (by omega) (ev_pos (by omega) ?_))
                  rw [e1, w64s (by omega), drop_step D i hi]
                  by_cases e : (D[i].length : Int) = R
                  · refine ev_pos e (ev_of_eq ih ?_)
                    rw [decide_eq_decide, Mo.Lens.cons]; exact ⟨fun h => ⟨e, h⟩, fun h => h.2⟩
                  · refine ev_neg e (ev_now ?_)
                    symm; rw [decide_eq_false_iff_not, Mo.Lens.cons]; exact fun h => e h.1
              have hA : ∀ i, i ≤ A.length → Ev (fun k => impl_LoopValid.l0 k A (A.length : Int) (i : Int) R C A D) (decide (Mo.Lens C (A.drop i) ∧ Mo.Lens R D)) := by
                refine up A.length ?_ ?_
                · refine Ev.step (fun _ => rfl) ?_
                  simp only [impl_LoopValid.l0]
                  refine ev_neg (by omega) (ev_of_eq (hD 0 (by omega)) ?_)
                  rw [decide_eq_decide]; simp [Mo.Lens.nil]
                · intro i hi ih
                  have e1 : rd_L1 A (i : Int) = A[i] := by unfold rd_L1; simp [hi]
                  refine Ev.step (fun _ => rfl) ?_
                  simp only [impl_LoopValid.l0]
                  refine ev_pos (by omega) (ev_pos (by omega) (ev_pos (by omega) ?_))
                  rw [e1, w64s (by omega), drop_step A i hi]
                  by_cases e : (A[i].length : Int) = C
                  · refine ev_pos e (ev_of_eq ih ?_)
                    rw [decide_eq_decide, Mo.Lens.cons]; exact ⟨fun h => ⟨⟨e, h.1⟩, h.2⟩, fun h => ⟨h.1.2, h.2⟩⟩
                  · refine ev_neg e (ev_now ?_)
                    symm; rw [decide_eq_false_iff_not, Mo.Lens.cons]; exact fun h => e h.1.1
              refine Ev.step (fun _ => rfl) ?_
              simp only [impl_LoopValid.j0]
              refine ev_neg (by simp [h4]) (ev_of_eq (hA 0 (by omega)) ?_)
              rw [decide_eq_decide]
              exact ⟨fun h => ⟨⟨by omega, by omega⟩, ⟨by omega, by omega⟩, h3, h4, by simpa using h.1, h.2⟩, fun h => ⟨by simpa using h.2.2.2.2.1, h.2.2.2.2.2⟩⟩
            · have e : ((D.length : Int) != C + 1) = true := by simpa using h4
              rw [e]; exact no (fun h => h4 h.2.2.2.1)
          · exact ev_neg h3 (no (fun h => h3 h.2.2.1))
def toE (p : Int × Int) : S82 := ⟨p.1, p.2⟩
theorem impl_edgesOf_ev (R C : Nat) (A D : List (List Bool)) (h : Mo.Fld R C A D) : Ev (fun k => impl_edgesOf.f k (R : Int) (C : Int) A D) ((Mo.edges ((C : Int) + 1) A D).map toE) := by
  have hR := h.hR; have hC := h.hC; have lA := h.lA; have lD := h.lD
  have hw : wrap64 ((C : Int) + 1) = (C : Int) + 1 := w64 (by omega) (by omega)
  have bnd : ∀ (i c : Nat), i ≤ 4 → c ≤ 4 → 0 ≤ (i : Int) * ((C : Int) + 1) ∧ (i : Int) * ((C : Int) + 1) ≤ 20 := by
    intro i c hi hc
    have h1 : i * (C + 1) ≤ 4 * 5 := Nat.mul_le_mul hi (by omega)
    have e : (i : Int) * ((C : Int) + 1) = ((i * (C + 1) : Nat) : Int) := by push_cast; rfl
    rw [e]; omega
  -- down
  have l3 : ∀ (j : Nat), j < C + 1 → ∀ (acc : List S82) (r : List S82), acc.length ≤ 60 →
      (∀ acc' : List S82, acc'.length ≤ acc.length + 4 → acc' = acc ++ (Mo.rowE (fun r => ((r : Int) * ((C : Int) + 1) + j, ((r : Int) + 1) * ((C : Int) + 1) + j)) 0 (D.getD j [])).map toE → Ev (fun k => impl_edgesOf.l2 k acc' ((C : Int) + 1) D (D.length : Int) (wrap64 ((j : Int) + 1))) r) →
      Ev (fun k => impl_edgesOf.l3 k acc ((C : Int) + 1) (j : Int) D (D.length : Int) (j : Int) (D.getD j []) ((D.getD j []).length : Int) 0) r := by
    intro j hj acc r hacc hgo
    have hl := h.rD j hj
    generalize hrow : D.getD j [] = row at hl hgo
    have key : ∀ i, i ≤ row.length → ∀ a2 : List S82, a2.length ≤ acc.length + i → acc ++ (Mo.rowE (fun r => ((r : Int) * ((C : Int) + 1) + j, ((r : Int) + 1) * ((C : Int) + 1) + j)) 0 row).map toE = a2 ++ (Mo.rowE (fun r => ((r : Int) * ((C : Int) + 1) + j, ((r : Int) + 1) * ((C : Int) + 1) + j)) i (row.drop i)).map toE →
        Ev (fun k => impl_edgesOf.l3 k a2 ((C : Int) + 1) (j : Int) D (D.length : Int) (j : Int) row (row.length : Int) (i : Int)) r := by
      refine up row.length ?_ ?_
      · intro a2 h2 he
        refine Ev.step (fun _ => rfl) ?_
        simp only [impl_edgesOf.l3]
        refine ev_neg (by omega) (hgo a2 (by omega) ?_)
        rw [he]; simp [Mo.rowE]
      · intro i hi ih a2 h2 he
        refine Ev.step (fun _ => rfl) ?_
        simp only [impl_edgesOf.l3]
        refine ev_pos (by omega) (ev_pos (by omega) (ev_pos (by omega) ?_))
        rw [rdOf_nat false row i hi, w64s (by omega)]
        have b1 := bnd i 0 (by omega) (by omega)
        have b2 := bnd (i + 1) 0 (by omega) (by omega)
        have e2 : ((i + 1 : Nat) : Int) = (i : Int) + 1 := by omega
        rw [e2] at b2
        rw [e2]
        rw [w64 (n := (i : Int) * ((C : Int) + 1)) (by omega) (by omega), w64 (n := ((i : Int) + 1) * ((C : Int) + 1)) (by omega) (by omega), w64 (n := (i : Int) * ((C : Int) + 1) + j) (by omega) (by omega), w64 (n := ((i : Int) + 1) * ((C : Int) + 1) + j) (by omega) (by omega)]
        rw [drop_step row i hi, Mo.rowE] at he
        have e3 : ((i : Int) + 1) = ((i + 1 : Nat) : Int) := by omega
        by_cases hb : row[i] = true
        · rw [if_pos hb, List.map_cons] at he
          refine ev_pos hb (ev_pos (by omega) ?_)
          have := ih (a2 ++ [toE ((i : Int) * ((C : Int) + 1) + j, ((i : Int) + 1) * ((C : Int) + 1) + j)]) (by simp; omega) (by rw [he, List.append_assoc]; rfl)
          rw [← e3] at this
          exact this
        · rw [if_neg hb] at he
          refine ev_neg hb ?_
          have := ih a2 (by omega) he
          rw [← e3] at this
          exact this
    exact key 0 (by omega) acc (by omega) (by simp)
  have l2 : ∀ j, j ≤ D.length → ∀ acc : List S82, acc.length ≤ 20 + 4 * j → Ev (fun k => impl_edgesOf.l2 k acc ((C : Int) + 1) D (D.length : Int) (j : Int)) (acc ++ (Mo.rowsE (fun c r => ((r : Int) * ((C : Int) + 1) + c, ((r : Int) + 1) * ((C : Int) + 1) + c)) j (D.drop j)).map toE) := by
    refine up D.length ?_ ?_
    · intro acc _
      refine Ev.step (fun _ => rfl) ?_
      simp only [impl_edgesOf.l2]
      exact ev_neg (by omega) (ev_now (by simp [Mo.rowsE]))
    · intro j hj ih acc hacc
      refine Ev.step (fun _ => rfl) ?_
      simp only [impl_edgesOf.l2]
      refine ev_pos (by omega) (ev_pos (by omega) (ev_pos (by omega) ?_))
      have e1 : rd_L1 D (j : Int) = D.getD j [] := rfl
      rw [e1]
      refine l3 j (by omega) acc _ (by omega) (fun acc' h1 h2 => ?_)
      rw [w64s (by omega)]
      refine ev_of_eq (ih acc' (by omega)) ?_
      rw [h2, drop_step D j hj, Mo.rowsE, List.map_append, List.append_assoc, Mo.getD_mem D j hj]
  -- across
  have l1 : ∀ (j : Nat), j < R + 1 → ∀ (acc : List S82) (r : List S82), acc.length ≤ 60 →
      (∀ acc' : List S82, acc'.length ≤ acc.length + 4 → acc' = acc ++ (Mo.rowE (fun c => ((j : Int) * ((C : Int) + 1) + c, (j : Int) * ((C : Int) + 1) + c + 1)) 0 (A.getD j [])).map toE → Ev (fun k => impl_edgesOf.l0 k acc' ((C : Int) + 1) A (A.length : Int) (wrap64 ((j : Int) + 1)) (R : Int) (C : Int) A D) r) →
      Ev (fun k => impl_edgesOf.l1 k acc ((C : Int) + 1) (j : Int) A (A.length : Int) (j : Int) (A.getD j []) ((A.getD j []).length : Int) 0 (R : Int) (C : Int) A D) r := by
    intro j hj acc r hacc hgo
    have hl := h.rA j hj
    generalize hrow : A.getD j [] = row at hl hgo
    have b1 := bnd j 0 (by omega) (by omega)
    have key : ∀ i, i ≤ row.length → ∀ a2 : List S82, a2.length ≤ acc.length + i → acc ++ (Mo.rowE (fun c => ((j : Int) * ((C : Int) + 1) + c, (j : Int) * ((C : Int) + 1) + c + 1)) 0 row).map toE = a2 ++ (Mo.rowE (fun c => ((j : Int) * ((C : Int) + 1) + c, (j : Int) * ((C : Int) + 1) + c + 1)) i (row.drop i)).map toE →
        Ev (fun k => impl_edgesOf.l1 k a2 ((C : Int) + 1) (j : Int) A (A.length : Int) (j : Int) row (row.length : Int) (i : Int) (R : Int) (C : Int) A D) r := by
      refine up row.length ?_ ?_
      · intro a2 h2 he
        refine Ev.step (fun _ => rfl) ?_
        simp only [impl_edgesOf.l1]
        refine ev_neg (by omega) (hgo a2 (by omega) ?_)
        rw [he]; simp [Mo.rowE]
      · intro i hi ih a2 h2 he
        refine Ev.step (fun _ => rfl) ?_
        simp only [impl_edgesOf.l1]
        refine ev_pos (by omega) (ev_pos (by omega) (ev_pos (by omega) ?_))
        rw [rdOf_nat false row i hi, w64s (by omega)]
        rw [w64 (n := (j : Int) * ((C : Int) + 1)) (by omega) (by omega), w64 (n := (j : Int) * ((C : Int) + 1) + i) (by omega) (by omega), w64 (n := (j : Int) * ((C : Int) + 1) + i + 1) (by omega) (by omega)]
        rw [drop_step row i hi, Mo.rowE] at he
        by_cases hb : row[i] = true
        · rw [if_pos hb, List.map_cons] at he
          refine ev_pos hb (ev_pos (by omega) ?_)
          exact ih (a2 ++ [toE ((j : Int) * ((C : Int) + 1) + i, (j : Int) * ((C : Int) + 1) + i + 1)]) (by simp; omega) (by rw [he, List.append_assoc]; rfl)
        · rw [if_neg hb] at he
          exact ev_neg hb (ih a2 (by omega) he)
    exact key 0 (by omega) acc (by omega) (by simp)
  have l0 : ∀ j, j ≤ A.length → ∀ acc : List S82, acc.length ≤ 4 * j → Ev (fun k => impl_edgesOf.l0 k acc ((C : Int) + 1) A (A.length : Int) (j : Int) (R : Int) (C : Int) A D) (acc ++ ((Mo.rowsE (fun r c => ((r : Int) * ((C : Int) + 1) + c, (r : Int) * ((C : Int) + 1) + c + 1)) j (A.drop j)).map toE ++ (Mo.rowsE (fun c r => ((r : Int) * ((C : Int) + 1) + c, ((r : Int) + 1) * ((C : Int) + 1) + c)) 0 D).map toE)) := by
    refine up A.length ?_ ?_
    · intro acc hacc
      refine Ev.step (fun _ => rfl) ?_
      simp only [impl_edgesOf.l0]
      refine ev_neg (by omega) (ev_of_eq (l2 0 (by omega) acc (by omega)) ?_)
      simp [Mo.rowsE]
    · intro j hj ih acc hacc
      refine Ev.step (fun _ => rfl) ?_
      simp only [impl_edgesOf.l0]
      refine ev_pos (by omega) (ev_pos (by omega) (ev_pos (by omega) ?_))
      have e1 : rd_L1 A (j : Int) = A.getD j [] := rfl
      rw [e1]
      refine l1 j (by omega) acc _ (by omega) (fun acc' h1 h2 => ?_)
      rw [w64s (by omega)]
      refine ev_of_eq (ih acc' (by omega)) ?_
      rw [h2, drop_step A j hj, Mo.rowsE, List.map_append, List.append_assoc, List.append_assoc, Mo.getD_mem A j hj]
  unfold impl_edgesOf.f
  rw [hw]
  refine ev_of_eq (l0 0 (by omega) [] (by simp)) ?_
  simp [Mo.edges]
theorem impl_LoopLength_ev (R C : Int) (A D : List (List Bool)) : Ev (fun k => impl_LoopLength.f k R C A D) (if Mo.FieldOk R C A D then (Mo.nEdges R.toNat C.toNat A D : Int) else -1) := by
  unfold impl_LoopLength.f
  refine Ev.bind (impl_LoopValid_ev R C A D) ?_
  by_cases h : Mo.FieldOk R C A D
  · obtain ⟨R', C', rfl, rfl, hf⟩ := h.fld
    refine ev_pos (by simpa using h) (Ev.bind (impl_edgesOf_ev R' C' A D hf) (ev_now ?_))
    rw [if_pos h, List.length_map, hf.edges_length]; rfl
  · exact ev_neg (by simpa using h) (ev_now (by rw [if_neg h]))
theorem spec_l17Degree_ev (R C : Nat) (A D : List (List Bool)) (h : Mo.Fld R C A D) (r c : Nat) (hr : r ≤ R) (hc : c ≤ C) : Ev (fun k => spec_l17Degree.f k (R : Int) (C : Int) A D (r : Int) (c : Int)) (Mo.deg A D r c : Int) := by
  have hR := h.hR; have hC := h.hC; have lA := h.lA; have lD := h.lD
  have rA := h.rA r (by omega)
  have rD := h.rD c (by omega)
  have e1 : rd_L1 A (r : Int) = A.getD r [] := rfl
  have e2 : rd_L1 D (c : Int) = D.getD c [] := rfl
  have g1 : rdOf false (A.getD r []) (c : Int) = Mo.ga A r c := rfl
  have g2 : rdOf false (D.getD c []) (r : Int) = Mo.ga D c r := rfl
  have j4 : ∀ (n : Nat) (b : Bool), n ≤ 2 → Ev (fun k => spec_l17Degree.j4 k (r : Int) (c : Int) (n : Int) b (R : Int) (C : Int) A D) (((n + Mo.b2 b + (if r = 0 then 0 else Mo.b2 (Mo.ga D c (r - 1))) : Nat)) : Int) := by
    intro n b hn
    refine Ev.step (fun _ => rfl) ?_
    simp only [spec_l17Degree.j4]
    have w1 : wrap64 ((n : Int) + 1) = ((n + 1 : Nat) : Int) := w64s (by omega)
    have w2 : wrap64 (((n + 1 : Nat) : Int) + 1) = ((n + 2 : Nat) : Int) := w64s (by omega)
    rw [w1, w2, e2]
    by_cases h0 : r = 0
    · subst h0
      cases b with
      | true => exact ev_pos rfl (ev_neg (by omega) (ev_now (by simp [Mo.b2])))
      | false => exact ev_neg (by simp) (ev_neg (by omega) (ev_now (by simp [Mo.b2])))
    · have w3 : wrap64 ((r : Int) - 1) = ((r - 1 : Nat) : Int) := by rw [w64 (by omega) (by omega)]; omega
      rw [w3]
      have g3 : rdOf false (D.getD c []) ((r - 1 : Nat) : Int) = Mo.ga D c (r - 1) := rfl
      rw [g3, if_neg h0]
      have hpos : (r : Int) > 0 := by omega
      cases b with
      | true =>
        refine ev_pos rfl (ev_pos hpos (ev_pos (by omega) (ev_pos (by omega) (ev_pos (by omega) (ev_pos (by omega) ?_)))))
        cases hg : Mo.ga D c (r - 1) with
        | true => exact ev_pos rfl (ev_now (by simp [Mo.b2]; omega))
        | false => exact ev_neg (by simp) (ev_now (by simp [Mo.b2]))
      | false =>
        refine ev_neg (by simp) (ev_pos hpos (ev_pos (by omega) (ev_pos (by omega) (ev_pos (by omega) (ev_pos (by omega) ?_)))))
        cases hg : Mo.ga D c (r - 1) with
        | true => exact ev_pos rfl (ev_now (by simp [Mo.b2]))
        | false => exact ev_neg (by simp) (ev_now (by simp [Mo.b2]))
  have j3 : ∀ n : Nat, n ≤ 2 → Ev (fun k => spec_l17Degree.j3 k (r : Int) (c : Int) (n : Int) (R : Int) (C : Int) A D) (((n + Mo.b2 (Mo.ga D c r) + (if r = 0 then 0 else Mo.b2 (Mo.ga D c (r - 1))) : Nat)) : Int) := by
    intro n hn
    refine Ev.step (fun _ => rfl) ?_
    simp only [spec_l17Degree.j3]
    rw [e2, g2]
    by_cases hlt : r < R
    · exact ev_pos (by omega) (ev_pos (by omega) (ev_pos (by omega) (ev_pos (by omega) (ev_pos (by omega) (j4 n _ hn)))))
    · refine ev_neg (by omega) (ev_of_eq (j4 n false hn) ?_)
      rw [h.d0 c r (.inr (by omega))]
  have j2 : ∀ (n : Nat) (b : Bool), n ≤ 1 → Ev (fun k => spec_l17Degree.j2 k (r : Int) (c : Int) (n : Int) b (R : Int) (C : Int) A D) (((n + Mo.b2 b + Mo.b2 (Mo.ga D c r) + (if r = 0 then 0 else Mo.b2 (Mo.ga D c (r - 1))) : Nat)) : Int) := by
    intro n b hn
    refine Ev.step (fun _ => rfl) ?_
    simp only [spec_l17Degree.j2]
    rw [w64s (by omega)]
    cases b with
    | true => exact ev_pos rfl (ev_of_eq (j3 (n + 1) (by omega)) (by simp [Mo.b2]))
    | false => exact ev_neg (by simp) (ev_of_eq (j3 n (by omega)) (by simp [Mo.b2]))
  have j1 : ∀ n : Nat, n ≤ 1 → Ev (fun k => spec_l17Degree.j1 k (r : Int) (c : Int) (n : Int) (R : Int) (C : Int) A D) (((n + (if c = 0 then 0 else Mo.b2 (Mo.ga A r (c - 1))) + Mo.b2 (Mo.ga D c r) + (if r = 0 then 0 else Mo.b2 (Mo.ga D c (r - 1))) : Nat)) : Int) := by
    intro n hn
    refine Ev.step (fun _ => rfl) ?_
    simp only [spec_l17Degree.j1]
    rw [e1]
    by_cases h0 : c = 0
    · refine ev_neg (by omega) (ev_of_eq (j2 n false hn) ?_)
      simp [h0, Mo.b2]
    · have w3 : wrap64 ((c : Int) - 1) = ((c - 1 : Nat) : Int) := by rw [w64 (by omega) (by omega)]; omega
      rw [w3]
      have g3 : rdOf false (A.getD r []) ((c - 1 : Nat) : Int) = Mo.ga A r (c - 1) := rfl
      rw [g3, if_neg h0]
      exact ev_pos (by omega) (ev_pos (by omega) (ev_pos (by omega) (ev_pos (by omega) (ev_pos (by omega) (j2 n _ hn)))))
  have j0 : ∀ (b : Bool), Ev (fun k => spec_l17Degree.j0 k (r : Int) (c : Int) 0 b (R : Int) (C : Int) A D) (((Mo.b2 b + (if c = 0 then 0 else Mo.b2 (Mo.ga A r (c - 1))) + Mo.b2 (Mo.ga D c r) + (if r = 0 then 0 else Mo.b2 (Mo.ga D c (r - 1))) : Nat)) : Int) := by
    intro b
    refine Ev.step (fun _ => rfl) ?_
    simp only [spec_l17Degree.j0]
    have w1 : wrap64 ((0 : Int) + 1) = ((1 : Nat) : Int) := w64 (by omega) (by omega)
    rw [w1]
    cases b with
    | true => exact ev_pos rfl (ev_of_eq (j1 1 (by omega)) (by simp [Mo.b2]))
    | false => exact ev_neg (by simp) (ev_of_eq (j1 0 (by omega)) (by simp [Mo.b2]))
  unfold spec_l17Degree.f
  rw [e1, g1]
  by_cases hlt : c < C
  · exact ev_pos (by omega) (ev_pos (by omega) (ev_pos (by omega) (ev_pos (by omega) (ev_pos (by omega) (j0 _)))))
  · refine ev_neg (by omega) (ev_of_eq (j0 false) ?_)
    unfold Mo.deg
    rw [h.a0 r c (.inr (by omega))]
theorem spec_LoopLength_ev (R C : Int) (A D : List (List Bool)) : Ev (fun k => spec_LoopLength.f k R C A D) (if Mo.FieldOk R C A D then (Mo.nEdges R.toNat C.toNat A D : Int) else -1) := by
  unfold spec_LoopLength.f
  refine Ev.bind (spec_LoopValid_ev R C A D) ?_
  by_cases h : Mo.FieldOk R C A D
  · obtain ⟨R', C', rfl, rfl, hf⟩ := h.fld
    have hR := hf.hR; have hC := hf.hC
    refine ev_pos (by simpa using h) ?_
    rw [if_pos h]
    have l1 : ∀ (r : Nat), r ≤ R' → ∀ c, c ≤ C' + 1 → ∀ (n : Nat) (q : Int), n ≤ 80 + 4 * c →
        (∀ n', n' ≤ n + 4 * (C' + 1 - c) → n' + Mo.sm c (fun c => Mo.deg A D r c) = n + Mo.sm (C' + 1) (fun c => Mo.deg A D r c) → Ev (fun k => spec_LoopLength.l0 k (n' : Int) (wrap64 ((r : Int) + 1)) (R' : Int) (C' : Int) A D) q) →
        Ev (fun k => spec_LoopLength.l1 k (n : Int) (r : Int) (c : Int) (R' : Int) (C' : Int) A D) q := by
      intro r hr
      refine up (C' + 1) ?_ ?_
      · intro n q hn hgo
        refine Ev.step (fun _ => rfl) ?_
        simp only [spec_LoopLength.l1]
        exact ev_neg (by omega) (hgo n (by omega) rfl)
      · intro c hc ih n q hn hgo
        refine Ev.step (fun _ => rfl) ?_
        simp only [spec_LoopLength.l1]
        have hd := Mo.deg_le A D r c
        refine ev_pos (by omega) (Ev.bind (spec_l17Degree_ev R' C' A D hf r c hr (by omega)) ?_)
        have w1 : wrap64 ((n : Int) + (Mo.deg A D r c : Int)) = ((n + Mo.deg A D r c : Nat) : Int) := by rw [w64 (by omega) (by omega)]; omega
        rw [w1, w64s (by omega)]
        refine ih _ q (by omega) (fun n' h1 h2 => hgo n' (by omega) ?_)
        rw [Mo.sm] at h2; omega
    have l0 : ∀ r, r ≤ R' + 1 → ∀ n : Nat, n ≤ 20 * r → n = Mo.sm r (fun r => Mo.sm (C' + 1) (fun c => Mo.deg A D r c)) → Ev (fun k => spec_LoopLength.l0 k (n : Int) (r : Int) (R' : Int) (C' : Int) A D) (Mo.nEdges R' C' A D : Int) := by
      refine up (R' + 1) ?_ ?_
      · intro n _ hn
        refine Ev.step (fun _ => rfl) ?_
        simp only [spec_LoopLength.l0]
        refine ev_neg (by omega) (ev_now ?_)
        have := hf.na_le
        rw [hf.hands] at hn
        rw [hn, Int.tdiv_eq_ediv_of_nonneg (by omega), w64 (by omega) (by omega)]; omega
      · intro r hr ih n h1 h2
        refine Ev.step (fun _ => rfl) ?_
        simp only [spec_LoopLength.l0]
        refine ev_pos (by omega) (l1 r (by omega) 0 (by omega) n _ (by omega) (fun n' h3 h4 => ?_))
        rw [w64s (by omega)]
        have hs : Mo.sm (C' + 1) (fun c => Mo.deg A D r c) ≤ (C' + 1) * 4 := by
          have := Mo.sm_le (f := fun c => Mo.deg A D r c) (g := fun _ => 4) (C' + 1) (fun c _ => Mo.deg_le A D r c)
          rwa [Mo.sm_const] at this
        have hs2 : Mo.sm (r + 1) (fun r => Mo.sm (C' + 1) (fun c => Mo.deg A D r c)) ≤ 2 * 40 := by
          have e : ∀ m, r + 1 ≤ m → Mo.sm (r + 1) (fun r => Mo.sm (C' + 1) (fun c => Mo.deg A D r c)) ≤ Mo.sm m (fun r => Mo.sm (C' + 1) (fun c => Mo.deg A D r c)) := by
            intro m hm
            induction m with
            | zero => omega
            | succ m ihm =>
              by_cases e : r + 1 = m + 1
              · rw [e]; exact Nat.le_refl _
              · have := ihm (by omega); simp only [Mo.sm] at this ⊢; omega
          have := e (R' + 1) (by omega)
          rw [hf.hands] at this
          have := hf.na_le
          omega
        have h5 : Mo.sm (r + 1) (fun r => Mo.sm (C' + 1) (fun c => Mo.deg A D r c)) = Mo.sm r (fun r => Mo.sm (C' + 1) (fun c => Mo.deg A D r c)) + Mo.sm (C' + 1) (fun c => Mo.deg A D r c) := rfl
        have h4' : n' = n + Mo.sm (C' + 1) (fun c => Mo.deg A D r c) := h4
        have h6 : n' = Mo.sm (r + 1) (fun r => Mo.sm (C' + 1) (fun c => Mo.deg A D r c)) := by rw [h5, h4', h2]
        exact ih n' (by omega) h6
    exact l0 0 (by omega) 0 (by omega) rfl
  · exact ev_neg (by simpa using h) (ev_now (by rw [if_neg h]))
end XFnExactLoopLength
open XFnExactLoopLength
theorem FnExactLoopLength (R C : Int) (A D : List (List Bool)) (hA : A.length ≤ 9223372036854775807) (hA2 : ∀ x ∈ A, x.length ≤ 9223372036854775807) (hD : D.length ≤ 9223372036854775807) (hD2 : ∀ x ∈ D, x.length ≤ 9223372036854775807) :
    ∃ k, laws_FnExactLoopLength.f k R C A D = some true := by
  apply Ev.rounds
  unfold laws_FnExactLoopLength.f
  obtain ⟨r, hr, h⟩ := laws_szLoop_ev R C A D hA hA2 hD hD2
  refine Ev.bind hr ?_
  rcases h with h | ⟨h, sA, sD⟩
  · exact ev_pos h (ev_now rfl)
  · refine ev_neg (by omega) (Ev.bind (laws_toLoop_ev R C A D sA sD) (Ev.bind (spec_LoopLength_ev R C A D) (Ev.bind (laws_toLoop_ev R C A D sA sD) (Ev.bind (impl_LoopLength_ev R C A D) (ev_pos rfl (Ev.bind (laws_toLoop_ev R C A D sA sD) (Ev.bind (laws_eqLoop_same R C A D sA sD) (ev_pos rfl (ev_now rfl)))))))))

end Go.Proofs.Ytdinbpfklikghaa.Pure
