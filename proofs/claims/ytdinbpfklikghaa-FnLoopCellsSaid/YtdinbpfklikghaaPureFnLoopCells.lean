/- LoopCells: the edges around one cell that is inside are a closed loop with four edges, and the clue of the cell is 4. No conditions. -/
import Derived.Test.YtdinbpfklikghaaPLoopsx40
import Derived.Test.YtdinbpfklikghaaMo
import Derived.Test.YtdinbpfklikghaaLo
import Derived.Test.YtdinbpfklikghaaCl
import Derived.Test.YtdinbpfklikghaaCm
set_option linter.unusedSimpArgs false
set_option linter.unusedVariables false
set_option maxRecDepth 4000
namespace Go.Proofs.Ytdinbpfklikghaa.Pure
open Go.RowKit Go.Proofs.Ytdinbpfklikghaa.PLoops Go.Proofs.Ytdinbpfklikghaa.Pk Go.Proofs.Ytdinbpfklikghaa.Mo Go.Proofs.YtdinbpfklikghaaW.PrintWords Go.Proofs.YtdinbpfklikghaaW.PrintLast

namespace XFnLoopCells
theorem impl_sizeOk_eq (s : Int) : impl_sizeOk.f s = some (decide (Mo.SizeOk s)) := by
  unfold impl_sizeOk.f Mo.SizeOk
  by_cases h : s ≥ 2
  · rw [if_pos h]; simp [show (2 : Int) ≤ s from h]
  · rw [if_neg h]; simp [show ¬ (2 : Int) ≤ s from h]
theorem spec_l1In_eq (n lo hi : Int) : spec_l1In.f n lo hi = some (decide (lo ≤ n ∧ n ≤ hi)) := by
  unfold spec_l1In.f
  by_cases h : n ≥ lo
  · rw [if_pos h]; simp [show lo ≤ n from h]
  · rw [if_neg h]; simp [show ¬ lo ≤ n from h]
theorem laws_alive_ev : Ev (fun k => laws_alive.f k) true := Ev.of laws_alive.mono (k := 12) (by decide +kernel)
/-- A code, as the reader of draws takes it. -/
def Bytes (b : List Int) : Prop := b.length ≤ 2000 ∧ ∀ x ∈ b, 0 ≤ x ∧ x ≤ 255
theorem spec_l20Open_ev (l : List Int) (hw : ∀ x ∈ l, (Lit.int .u8 x).wf = true) : ∃ b, spec_l20Open.f l = some (b, 0) ∧ Bytes b := by
  unfold spec_l20Open.f
  by_cases h : (l.length : Int) > 2000
  · refine ⟨l.take 2000, ?_, ?_, fun x hx => wf_u8.1 (hw x (List.mem_of_mem_take hx))⟩
    · rw [if_pos h, if_pos (by omega)]
    · simp; omega
  · exact ⟨l, by rw [if_neg h], by omega, fun x hx => wf_u8.1 (hw x hx)⟩
theorem spec_l20Rd_pick_ev (b : List Int) (p n : Int) (hb : Bytes b) (h0 : 0 ≤ p) (hp : p ≤ 1000000000) (hn : n ≤ 1000000000) :
    ∃ r, Ev (fun k => spec_l20Rd_pick.f k b p n) (r, p + 1) ∧ 0 ≤ r ∧ (1 ≤ n → r < n) ∧ (n < 1 → r = 0) := by
  unfold spec_l20Rd_pick.f
  rw [w64 (n := p + 1) (by omega) (by omega)]
  by_cases hn1 : n < 1
  · refine ⟨0, ev_pos hn1 (Ev.step (fun _ => rfl) ?_), by omega, by omega, fun _ => rfl⟩
    simp only [spec_l20Rd_pick.j0]
    exact ev_pos trivial (ev_now rfl)
  · by_cases hl : b.length = 0
    · refine ⟨0, ev_neg hn1 (Ev.step (fun _ => rfl) ?_), by omega, by omega, by omega⟩
      simp only [spec_l20Rd_pick.j0]
      exact ev_pos (by simp [hl]) (ev_now rfl)
    · have hmem : ∀ i : Int, 0 ≤ i → i < b.length → 0 ≤ rd b i ∧ rd b i ≤ 255 := fun i h h' => hb.2 _ (rd_mem b i h h')
      have hne : ¬ (((b.length : Int) == 0) = true) := fun h => hl (by have := eq_of_beq h; omega)
      have hp1 : wrap64 (p + 1 - 1) = p := by rw [w64 (by omega) (by omega)]; omega
      by_cases hk : p < b.length
      · have hr := hmem p h0 hk
        refine ⟨Int.tmod (wrap64 (rd b p)) n, ev_neg hn1 (Ev.step (fun _ => rfl) ?_), ?_, ?_, by omega⟩
        · simp only [spec_l20Rd_pick.j0]
          rw [hp1]
          exact ev_neg hne (ev_pos hk (ev_pos h0 (ev_neg (by omega) (ev_now rfl))))
        · rw [w64 (by omega) (by omega), Int.tmod_eq_emod_of_nonneg (by omega)]; exact Int.emod_nonneg _ (by omega)
        · intro _; rw [w64 (by omega) (by omega), Int.tmod_eq_emod_of_nonneg (by omega)]; exact Int.emod_lt_of_pos _ (by omega)
      · have hL : (0 : Int) < b.length := by omega
        have e7 : wrap64 (wrap64 (p * 7) + 3) = p * 7 + 3 := by rw [w64 (n := p * 7) (by omega) (by omega), w64 (by omega) (by omega)]
        have m1 : Int.tmod p b.length = p % b.length := Int.tmod_eq_emod_of_nonneg h0
        have m2 : Int.tmod (p * 7 + 3) b.length = (p * 7 + 3) % b.length := Int.tmod_eq_emod_of_nonneg (by omega)
        have a1 := Int.emod_nonneg p (b := (b.length : Int)) (by omega)
        have a2 := Int.emod_lt_of_pos p hL
        have b1 := Int.emod_nonneg (p * 7 + 3) (b := (b.length : Int)) (by omega)
        have b2 := Int.emod_lt_of_pos (p * 7 + 3) hL
        have r1 := hmem _ a1 a2
        have r2 := hmem _ b1 b2
        have d0 : 0 ≤ Int.tdiv p b.length := by rw [Int.tdiv_eq_ediv_of_nonneg h0]; exact Int.ediv_nonneg h0 (by omega)
        have d1 : Int.tdiv p b.length ≤ p := by rw [Int.tdiv_eq_ediv_of_nonneg h0]; exact Int.ediv_le_self _ h0
        generalize hx : wrap64 (wrap64 (wrap64 (wrap64 (wrap64 (rd b (p % b.length)) * 131) + wrap64 (wrap64 (rd b ((p * 7 + 3) % b.length)) * 1117)) + wrap64 (p * 29)) + wrap64 (wrap64 (Int.tdiv p b.length) * 53)) = x
        have hx0 : 0 ≤ x ∧ x ≤ 100000000000 := by
          rw [← hx]
          rw [w64 (n := rd b (p % b.length)) (by omega) (by omega), w64 (n := rd b ((p * 7 + 3) % b.length)) (by omega) (by omega), w64 (n := Int.tdiv p b.length) (by omega) (by omega)]
          rw [w64 (n := rd b (p % b.length) * 131) (by omega) (by omega), w64 (n := rd b ((p * 7 + 3) % b.length) * 1117) (by omega) (by omega), w64 (n := p * 29) (by omega) (by omega), w64 (n := Int.tdiv p b.length * 53) (by omega) (by omega)]
          rw [w64 (n := rd b (p % b.length) * 131 + rd b ((p * 7 + 3) % b.length) * 1117) (by omega) (by omega)]
          rw [w64 (n := rd b (p % b.length) * 131 + rd b ((p * 7 + 3) % b.length) * 1117 + p * 29) (by omega) (by omega)]
          rw [w64 (by omega) (by omega)]
          omega
        have hq : wrap64 (Int.tdiv x 64) = x / 64 := by rw [Int.tdiv_eq_ediv_of_nonneg hx0.1, w64 (by omega) (by omega)]
        have hz : 0 ≤ Go.bits .xor .i64 x (x / 64) := xor_nonneg _ _ (by omega) (by omega) (by omega) (by omega)
        refine ⟨Int.tmod (Go.bits .xor .i64 x (x / 64)) n, ev_neg hn1 (Ev.step (fun _ => rfl) ?_), ?_, ?_, by omega⟩
        · simp only [spec_l20Rd_pick.j0]
          rw [hp1, e7, m1, m2, hx, hq]
          exact ev_neg hne (ev_neg hk (ev_neg (by omega) (ev_pos a1 (ev_pos a2 (ev_pos b1 (ev_pos b2 (ev_neg (by omega) (ev_now rfl))))))))
        · rw [Int.tmod_eq_emod_of_nonneg hz]; exact Int.emod_nonneg _ (by omega)
        · intro _; rw [Int.tmod_eq_emod_of_nonneg hz]; exact Int.emod_lt_of_pos _ (by omega)
theorem spec_l20Rd_odd_ev (b : List Int) (p n : Int) (hb : Bytes b) (h0 : 0 ≤ p) (hp : p ≤ 1000000000) (hn : n ≤ 1000000000) :
    ∃ r p', Ev (fun k => spec_l20Rd_odd.f k b p n) (r, p') ∧ p ≤ p' ∧ p' ≤ p + 1 ∧ (n ≤ 0 → r = false ∧ p' = p) := by
  unfold spec_l20Rd_odd.f
  by_cases h : n > 0
  · obtain ⟨r, hr, _⟩ := spec_l20Rd_pick_ev b p n hb h0 hp hn
    exact ⟨_, _, ev_pos h (Ev.bind hr (ev_now rfl)), by omega, by omega, by omega⟩
  · exact ⟨_, _, ev_neg h (ev_now rfl), by omega, by omega, fun _ => ⟨rfl, rfl⟩⟩
theorem impl_GridValid_ev (l : List Int) (s : Int) (hl : l.length ≤ 4611686018427387904) : Ev (fun k => impl_GridValid.f k l s) (decide (Mo.SqOk s l s)) := by
  have key : ∀ i, i ≤ l.length → Ev (fun k => impl_GridValid.l0 k s l (l.length : Int) (i : Int)) (decide (Mo.AllIn 0 s (l.drop i))) := by
    refine up l.length ?_ ?_
    · refine Ev.step (fun _ => rfl) ?_
      simp only [impl_GridValid.l0]
      refine ev_neg (by omega) (ev_now ?_)
      simp [Mo.AllIn.nil]
    · intro i hi ih
      refine Ev.step (fun _ => rfl) ?_
      simp only [impl_GridValid.l0]
      refine ev_pos (by omega) (ev_pos (by omega) (ev_pos (by omega) ?_))
      rw [rd_nat l i hi, w64s (by omega), drop_step l i hi]
      by_cases e : l[i] < 0
      · refine ev_pos e (ev_now ?_)
        symm; rw [decide_eq_false_iff_not, Mo.AllIn.cons]; omega
      · refine ev_neg e ?_
        by_cases e' : l[i] > s
        · refine ev_pos e' (ev_now ?_)
          symm; rw [decide_eq_false_iff_not, Mo.AllIn.cons]; omega
        · refine ev_neg e' (ev_of_eq ih ?_)
          rw [decide_eq_decide, Mo.AllIn.cons]
          exact ⟨fun h => ⟨by omega, h⟩, fun h => h.2⟩
  unfold impl_GridValid.f
  refine ev_bindc (impl_sizeOk_eq s) ?_
  by_cases hs : Mo.SizeOk s
  · have hs' := hs
    unfold Mo.SizeOk at hs'
    refine ev_pos (by simpa using hs) (Ev.step (fun _ => rfl) ?_)
    simp only [impl_GridValid.j0]
    have hw : wrap64 (s * s) = s * s := by rcases hs.cases with rfl | rfl | rfl <;> exact w64 (by decide) (by decide)
    rw [hw]
    by_cases hn : (l.length : Int) = s * s
    · refine ev_neg (by simp [hn]) (ev_of_eq (key 0 (by omega)) ?_)
      rw [decide_eq_decide]
      exact ⟨fun h => ⟨hs, hn, by simpa using h⟩, fun h => by simpa using h.2.2⟩
    · refine ev_pos (by simp [hn]) (ev_now ?_)
      symm; rw [decide_eq_false_iff_not]; exact fun h => hn h.2.1
  · refine ev_neg (by simpa using hs) (Ev.step (fun _ => rfl) ?_)
    simp only [impl_GridValid.j0]
    refine ev_pos trivial (ev_now ?_)
    symm; rw [decide_eq_false_iff_not]; exact fun h => hs h.1
theorem impl_LoopValid_ev (R C : Int) (A D : List (List Bool)) : Ev (fun k => impl_LoopValid.f k R C A D) (decide (Mo.FieldOk R C A D)) := by
  have no : ¬ Mo.FieldOk R C A D → Ev (fun k => impl_LoopValid.j0 k true R C A D) (decide (Mo.FieldOk R C A D)) := by
    intro h
    refine Ev.step (fun _ => rfl) ?_
    simp only [impl_LoopValid.j0]
    exact ev_pos trivial (ev_now (by simp [h]))
  unfold impl_LoopValid.f
  by_cases h1 : R < 1
  · exact ev_pos h1 (no (fun h => by have := h.1; omega))
  · refine ev_neg h1 ?_
    by_cases h1' : R > 4
    · exact ev_pos h1' (no (fun h => by have := h.1; omega))
    · refine ev_neg h1' ?_
      by_cases h2 : C < 1
      · exact ev_pos h2 (no (fun h => by have := h.2.1; omega))
      · refine ev_neg h2 ?_
        by_cases h2' : C > 4
        · exact ev_pos h2' (no (fun h => by have := h.2.1; omega))
        · refine ev_neg h2' ?_
          rw [w64 (n := R + 1) (by omega) (by omega), w64 (n := C + 1) (by omega) (by omega)]
          by_cases h3 : (A.length : Int) = R + 1
          · refine ev_pos h3 ?_
            by_cases h4 : (D.length : Int) = C + 1
            · have hD : ∀ i, i ≤ D.length → Ev (fun k => impl_LoopValid.l1 k D (D.length : Int) (i : Int) R C A D) (decide (Mo.Lens R (D.drop i))) := by
                refine up D.length ?_ ?_
                · refine Ev.step (fun _ => rfl) ?_
                  simp only [impl_LoopValid.l1]
                  exact ev_neg (by omega) (ev_now (by simp [Mo.Lens.nil]))
                · intro i hi ih
                  have e1 : rd_L1 D (i : Int) = D[i] := by unfold rd_L1; simp [hi]
                  refine Ev.step (fun _ => rfl) ?_
                  simp only [impl_LoopValid.l1]
                  refine ev_pos (by omega) (ev_pos (by omega) (ev_pos (by omega) ?_))
                  rw [e1, w64s (by omega), drop_step D i hi]
                  by_cases e : (D[i].length : Int) = R
                  · refine ev_pos e (ev_of_eq ih ?_)
                    rw [decide_eq_decide, Mo.Lens.cons]; exact ⟨fun h => ⟨e, h⟩, fun h => h.2⟩
                  · refine ev_neg e (ev_now ?_)
                    symm; rw [decide_eq_false_iff_not, Mo.Lens.cons]; exact fun h => e h.1
              have hA : ∀ i, i ≤ A.length → Ev (fun k => impl_LoopValid.l0 k A (A.length : Int) (i : Int) R C A D) (decide (Mo.Lens C (A.drop i) ∧ Mo.Lens R D)) := by
                refine up A.length ?_ ?_
                · refine Ev.step (fun _ => rfl) ?_
                  simp only [impl_LoopValid.l0]
                  refine ev_neg (by omega) (ev_of_eq (hD 0 (by omega)) ?_)
                  rw [decide_eq_decide]; simp [Mo.Lens.nil]
                · intro i hi ih
                  have e1 : rd_L1 A (i : Int) = A[i] := by unfold rd_L1; simp [hi]
                  refine Ev.step (fun _ => rfl) ?_
                  simp only [impl_LoopValid.l0]
                  refine ev_pos (by omega) (ev_pos (by omega) (ev_pos (by omega) ?_))
                  rw [e1, w64s (by omega), drop_step A i hi]
                  by_cases e : (A[i].length : Int) = C
                  · refine ev_pos e (ev_of_eq ih ?_)
                    rw [decide_eq_decide, Mo.Lens.cons]; exact ⟨fun h => ⟨⟨e, h.1⟩, h.2⟩, fun h => ⟨h.1.2, h.2⟩⟩
                  · refine ev_neg e (ev_now ?_)
                    symm; rw [decide_eq_false_iff_not, Mo.Lens.cons]; exact fun h => e h.1.1
              refine Ev.step (fun _ => rfl) ?_
              simp only [impl_LoopValid.j0]
              refine ev_neg (by simp [h4]) (ev_of_eq (hA 0 (by omega)) ?_)
              rw [decide_eq_decide]
              exact ⟨fun h => ⟨⟨by omega, by omega⟩, ⟨by omega, by omega⟩, h3, h4, by simpa using h.1, h.2⟩, fun h => ⟨by simpa using h.2.2.2.2.1, h.2.2.2.2.2⟩⟩
            · have e : ((D.length : Int) != C + 1) = true := by simpa using h4
              rw [e]; exact no (fun h => h4 h.2.2.2.1)
          · exact ev_neg h3 (no (fun h => h3 h.2.2.1))
def toE (p : Int × Int) : S82 := ⟨p.1, p.2⟩
theorem impl_edgesOf_ev (R C : Nat) (A D : List (List Bool)) (h : Mo.Fld R C A D) : Ev (fun k => impl_edgesOf.f k (R : Int) (C : Int) A D) ((Mo.edges ((C : Int) + 1) A D).map toE) := by
  have hR := h.hR; have hC := h.hC; have lA := h.lA; have lD := h.lD
  have hw : wrap64 ((C : Int) + 1) = (C : Int) + 1 := w64 (by omega) (by omega)
  have bnd : ∀ (i c : Nat), i ≤ 4 → c ≤ 4 → 0 ≤ (i : Int) * ((C : Int) + 1) ∧ (i : Int) * ((C : Int) + 1) ≤ 20 := by
    intro i c hi hc
    have h1 : i * (C + 1) ≤ 4 * 5 := Nat.mul_le_mul hi (by omega)
    have e : (i : Int) * ((C : Int) + 1) = ((i * (C + 1) : Nat) : Int) := by push_cast; rfl
    rw [e]; omega
  -- down
  have l3 : ∀ (j : Nat), j < C + 1 → ∀ (acc : List S82) (r : List S82), acc.length ≤ 60 →
      (∀ acc' : List S82, acc'.length ≤ acc.length + 4 → acc' = acc ++ (Mo.rowE (fun r => ((r : Int) * ((C : Int) + 1) + j, ((r : Int) + 1) * ((C : Int) + 1) + j)) 0 (D.getD j [])).map toE → Ev (fun k => impl_edgesOf.l2 k acc' ((C : Int) + 1) D (D.length : Int) (wrap64 ((j : Int) + 1))) r) →
      Ev (fun k => impl_edgesOf.l3 k acc ((C : Int) + 1) (j : Int) D (D.length : Int) (j : Int) (D.getD j []) ((D.getD j []).length : Int) 0) r := by
    intro j hj acc r hacc hgo
    have hl := h.rD j hj
    generalize hrow : D.getD j [] = row at hl hgo
    have key : ∀ i, i ≤ row.length → ∀ a2 : List S82, a2.length ≤ acc.length + i → acc ++ (Mo.rowE (fun r => ((r : Int) * ((C : Int) + 1) + j, ((r : Int) + 1) * ((C : Int) + 1) + j)) 0 row).map toE = a2 ++ (Mo.rowE (fun r => ((r : Int) * ((C : Int) + 1) + j, ((r : Int) + 1) * ((C : Int) + 1) + j)) i (row.drop i)).map toE →
        Ev (fun k => impl_edgesOf.l3 k a2 ((C : Int) + 1) (j : Int) D (D.length : Int) (j : Int) row (row.length : Int) (i : Int)) r := by
      refine up row.length ?_ ?_
      · intro a2 h2 he
        refine Ev.step (fun _ => rfl) ?_
        simp only [impl_edgesOf.l3]
        refine ev_neg (by omega) (hgo a2 (by omega) ?_)
        rw [he]; simp [Mo.rowE]
      · intro i hi ih a2 h2 he
        refine Ev.step (fun _ => rfl) ?_
        simp only [impl_edgesOf.l3]
        refine ev_pos (by omega) (ev_pos (by omega) (ev_pos (by omega) ?_))
        rw [rdOf_nat false row i hi, w64s (by omega)]
        have b1 := bnd i 0 (by omega) (by omega)
        have b2 := bnd (i + 1) 0 (by omega) (by omega)
        have e2 : ((i + 1 : Nat) : Int) = (i : Int) + 1 := by omega
        rw [e2] at b2
        rw [e2]
        rw [w64 (n := (i : Int) * ((C : Int) + 1)) (by omega) (by omega), w64 (n := ((i : Int) + 1) * ((C : Int) + 1)) (by omega) (by omega), w64 (n := (i : Int) * ((C : Int) + 1) + j) (by omega) (by omega), w64 (n := ((i : Int) + 1) * ((C : Int) + 1) + j) (by omega) (by omega)]
        rw [drop_step row i hi, Mo.rowE] at he
        have e3 : ((i : Int) + 1) = ((i + 1 : Nat) : Int) := by omega
        by_cases hb : row[i] = true
        · rw [if_pos hb, List.map_cons] at he
          refine ev_pos hb (ev_pos (by omega) ?_)
          have := ih (a2 ++ [toE ((i : Int) * ((C : Int) + 1) + j, ((i : Int) + 1) * ((C : Int) + 1) + j)]) (by simp; omega) (by rw [he, List.append_assoc]; rfl)
          rw [← e3] at this
          exact this
        · rw [if_neg hb] at he
          refine ev_neg hb ?_
          have := ih a2 (by omega) he
          rw [← e3] at this
          exact this
    exact key 0 (by omega) acc (by omega) (by simp)
  have l2 : ∀ j, j ≤ D.length → ∀ acc : List S82, acc.length ≤ 20 + 4 * j → Ev (fun k => impl_edgesOf.l2 k acc ((C : Int) + 1) D (D.length : Int) (j : Int)) (acc ++ (Mo.rowsE (fun c r => ((r : Int) * ((C : Int) + 1) + c, ((r : Int) + 1) * ((C : Int) + 1) + c)) j (D.drop j)).map toE) := by
    refine up D.length ?_ ?_
    · intro acc _
      refine Ev.step (fun _ => rfl) ?_
      simp only [impl_edgesOf.l2]
      exact ev_neg (by omega) (ev_now (by simp [Mo.rowsE]))
    · intro j hj ih acc hacc
      refine Ev.step (fun _ => rfl) ?_
      simp only [impl_edgesOf.l2]
      refine ev_pos (by omega) (ev_pos (by omega) (ev_pos (by omega) ?_))
      have e1 : rd_L1 D (j : Int) = D.getD j [] := rfl
      rw [e1]
      refine l3 j (by omega) acc _ (by omega) (fun acc' h1 h2 => ?_)
      rw [w64s (by omega)]
      refine ev_of_eq (ih acc' (by omega)) ?_
      rw [h2, drop_step D j hj, Mo.rowsE, List.map_append, List.append_assoc, Mo.getD_mem D j hj]
  -- across
  have l1 : ∀ (j : Nat), j < R + 1 → ∀ (acc : List S82) (r : List S82), acc.length ≤ 60 →
      (∀ acc' : List S82, acc'.length ≤ acc.length + 4 → acc' = acc ++ (Mo.rowE (fun c => ((j : Int) * ((C : Int) + 1) + c, (j : Int) * ((C : Int) + 1) + c + 1)) 0 (A.getD j [])).map toE → Ev (fun k => impl_edgesOf.l0 k acc' ((C : Int) + 1) A (A.length : Int) (wrap64 ((j : Int) + 1)) (R : Int) (C : Int) A D) r) →
      Ev (fun k => impl_edgesOf.l1 k acc ((C : Int) + 1) (j : Int) A (A.length : Int) (j : Int) (A.getD j []) ((A.getD j []).length : Int) 0 (R : Int) (C : Int) A D) r := by
    intro j hj acc r hacc hgo
    have hl := h.rA j hj
    generalize hrow : A.getD j [] = row at hl hgo
    have b1 := bnd j 0 (by omega) (by omega)
    have key : ∀ i, i ≤ row.length → ∀ a2 : List S82, a2.length ≤ acc.length + i → acc ++ (Mo.rowE (fun c => ((j : Int) * ((C : Int) + 1) + c, (j : Int) * ((C : Int) + 1) + c + 1)) 0 row).map toE = a2 ++ (Mo.rowE (fun c => ((j : Int) * ((C : Int) + 1) + c, (j : Int) * ((C : Int) + 1) + c + 1)) i (row.drop i)).map toE →
        Ev (fun k => impl_edgesOf.l1 k a2 ((C : Int) + 1) (j : Int) A (A.length : Int) (j : Int) row (row.length : Int) (i : Int) (R : Int) (C : Int) A D) r := by
      refine up row.length ?_ ?_
      · intro a2 h2 he
        refine Ev.step (fun _ => rfl) ?_
        simp only [impl_edgesOf.l1]
        refine ev_neg (by omega) (hgo a2 (by omega) ?_)
        rw [he]; simp [Mo.rowE]
      · intro i hi ih a2 h2 he
        refine Ev.step (fun _ => rfl) ?_
        simp only [impl_edgesOf.l1]
        refine ev_pos (by omega) (ev_pos (by omega) (ev_pos (by omega) ?_))
        rw [rdOf_nat false row i hi, w64s (by omega)]
        rw [w64 (n := (j : Int) * ((C : Int) + 1)) (by omega) (by omega), w64 (n := (j : Int) * ((C : Int) + 1) + i) (by omega) (by omega), w64 (n := (j : Int) * ((C : Int) + 1) + i + 1) (by omega) (by omega)]
        rw [drop_step row i hi, Mo.rowE] at he
        by_cases hb : row[i] = true
        · rw [if_pos hb, List.map_cons] at he
          refine ev_pos hb (ev_pos (by omega) ?_)
          exact ih (a2 ++ [toE ((j : Int) * ((C : Int) + 1) + i, (j : Int) * ((C : Int) + 1) + i + 1)]) (by simp; omega) (by rw [he, List.append_assoc]; rfl)
        · rw [if_neg hb] at he
          exact ev_neg hb (ih a2 (by omega) he)
    exact key 0 (by omega) acc (by omega) (by simp)
  have l0 : ∀ j, j ≤ A.length → ∀ acc : List S82, acc.length ≤ 4 * j → Ev (fun k => impl_edgesOf.l0 k acc ((C : Int) + 1) A (A.length : Int) (j : Int) (R : Int) (C : Int) A D) (acc ++ ((Mo.rowsE (fun r c => ((r : Int) * ((C : Int) + 1) + c, (r : Int) * ((C : Int) + 1) + c + 1)) j (A.drop j)).map toE ++ (Mo.rowsE (fun c r => ((r : Int) * ((C : Int) + 1) + c, ((r : Int) + 1) * ((C : Int) + 1) + c)) 0 D).map toE)) := by
    refine up A.length ?_ ?_
    · intro acc hacc
      refine Ev.step (fun _ => rfl) ?_
      simp only [impl_edgesOf.l0]
      refine ev_neg (by omega) (ev_of_eq (l2 0 (by omega) acc (by omega)) ?_)
      simp [Mo.rowsE]
    · intro j hj ih acc hacc
      refine Ev.step (fun _ => rfl) ?_
      simp only [impl_edgesOf.l0]
      refine ev_pos (by omega) (ev_pos (by omega) (ev_pos (by omega) ?_))
      have e1 : rd_L1 A (j : Int) = A.getD j [] := rfl
      rw [e1]
      refine l1 j (by omega) acc _ (by omega) (fun acc' h1 h2 => ?_)
      rw [w64s (by omega)]
      refine ev_of_eq (ih acc' (by omega)) ?_
      rw [h2, drop_step A j hj, Mo.rowsE, List.map_append, List.append_assoc, List.append_assoc, Mo.getD_mem A j hj]
  unfold impl_edgesOf.f
  rw [hw]
  refine ev_of_eq (l0 0 (by omega) [] (by simp)) ?_
  simp [Mo.edges]
theorem impl_LoopLength_ev (R C : Int) (A D : List (List Bool)) : Ev (fun k => impl_LoopLength.f k R C A D) (if Mo.FieldOk R C A D then (Mo.nEdges R.toNat C.toNat A D : Int) else -1) := by
  unfold impl_LoopLength.f
  refine Ev.bind (impl_LoopValid_ev R C A D) ?_
  by_cases h : Mo.FieldOk R C A D
  · obtain ⟨R', C', rfl, rfl, hf⟩ := h.fld
    refine ev_pos (by simpa using h) (Ev.bind (impl_edgesOf_ev R' C' A D hf) (ev_now ?_))
    rw [if_pos h, List.length_map, hf.edges_length]; rfl
  · exact ev_neg (by simpa using h) (ev_now (by rw [if_neg h]))
theorem spec_LoopAround_at (l : List Bool) (c : Bool) (i : Int) (h : c = true → 0 ≤ i ∧ i < l.length) : spec_LoopAround.at_ l c i = some (c && l.getD i.toNat false) := by
  unfold spec_LoopAround.at_
  cases c with
  | false => simp
  | true =>
    obtain ⟨h1, h2⟩ := h rfl
    obtain ⟨n, rfl⟩ := Int.eq_ofNat_of_zero_le h1
    have h3 : n < l.length := by omega
    rw [if_pos rfl, if_pos h1, if_pos h2, rdOf_nat false l n h3]
    simp [h3]
theorem spec_LoopAround_l1 (R C : Nat) (hR : R ≤ 4) (hC : C ≤ 4) (l : List Bool) (hl : l.length = R * C) (r : Nat) (hr : r ≤ R) (xs : List (List Bool)) (hx : xs.length ≤ 5) (res : Int × Int × (List (List Bool)) × (List (List Bool)))
    (h : Ev (fun k => spec_LoopAround.l0 k (R : Int) (C : Int) l ((r + 1 : Nat) : Int) (xs ++ [(List.range C).map (Mo.arA R C l r)])) res) :
    ∀ c, c ≤ C → Ev (fun k => spec_LoopAround.l1 k (R : Int) (C : Int) l (r : Int) ((List.range c).map (Mo.arA R C l r)) (c : Int) xs) res := by
  refine up C ?_ ?_
  · refine Ev.step (fun _ => rfl) ?_
    simp only [spec_LoopAround.l1]
    rw [w64s (n := r) (by omega)]
    exact ev_neg (by omega) (ev_pos (by omega) h)
  · intro c hc ih
    have e2 := Mo.ix r C c (by omega) hC (by omega)
    have e1 : 0 < r → wrap64 (wrap64 (wrap64 ((r : Int) - 1) * (C : Int)) + (c : Int)) = (((r - 1) * C + c : Nat) : Int) := by
      intro h0
      have h1 : wrap64 ((r : Int) - 1) = ((r - 1 : Nat) : Int) := by rw [w64 (by omega) (by omega)]; omega
      rw [h1]; exact Mo.ix (r - 1) C c (by omega) hC (by omega)
    refine Ev.step (fun _ => rfl) ?_
    simp only [spec_LoopAround.l1]
    rw [w64s (by omega), e2]
    refine ev_pos (by omega) (ev_bindc (spec_LoopAround_at l _ _ ?_) (ev_bindc (spec_LoopAround_at l _ _ ?_) (ev_pos (by simp; omega) ?_)))
    · intro h0
      have h0 : 0 < r := by simpa using h0
      rw [e1 h0]
      have := Mo.ix_lt (r := r - 1) (R := R) (C := C) (c := c) (by omega) hc
      omega
    · intro h0
      have h0 : r < R := by simpa using h0
      have := Mo.ix_lt (r := r) (R := R) (C := C) (c := c) (by omega) hc
      omega
    · have e : (List.range c).map (Mo.arA R C l r) ++ [(decide ((0 : Int) < (r : Int)) && l.getD (wrap64 (wrap64 (wrap64 ((r : Int) - 1) * (C : Int)) + (c : Int))).toNat false) != (decide ((r : Int) < (R : Int)) && l.getD ((r * C + c : Nat) : Int).toNat false)] = (List.range (c + 1)).map (Mo.arA R C l r) := by
        rw [List.range_succ, List.map_append]
        congr 1
        simp only [List.map_cons, List.map_nil, List.cons.injEq, and_true]
        unfold Mo.arA
        rw [Int.toNat_natCast]
        have d2 : decide ((r : Int) < (R : Int)) = decide (r < R) := decide_eq_decide.2 (by omega)
        rw [d2]
        by_cases h0 : 0 < r
        · rw [e1 h0, Int.toNat_natCast]
          have d1 : decide ((0 : Int) < (r : Int)) = decide (0 < r) := decide_eq_decide.2 (by omega)
          rw [d1]
        · have d1 : decide ((0 : Int) < (r : Int)) = false := decide_eq_false (by omega)
          have d1' : decide (0 < r) = false := decide_eq_false (by omega)
          rw [d1, d1']; rfl
      rw [e]; exact ih
theorem spec_LoopAround_l3 (R C : Nat) (hR : R ≤ 4) (hC : C ≤ 4) (l : List Bool) (hl : l.length = R * C) (c : Nat) (hc : c ≤ C) (ys xs : List (List Bool)) (hx : xs.length ≤ 5) (res : Int × Int × (List (List Bool)) × (List (List Bool)))
    (h : Ev (fun k => spec_LoopAround.l2 k (R : Int) (C : Int) l ((c + 1 : Nat) : Int) ys (xs ++ [(List.range R).map (Mo.arD R C l c)])) res) :
    ∀ r, r ≤ R → Ev (fun k => spec_LoopAround.l3 k (R : Int) (C : Int) l (c : Int) ((List.range r).map (Mo.arD R C l c)) (r : Int) ys xs) res := by
  refine up R ?_ ?_
  · refine Ev.step (fun _ => rfl) ?_
    simp only [spec_LoopAround.l3]
    rw [w64s (n := c) (by omega)]
    exact ev_neg (by omega) (ev_pos (by omega) h)
  · intro r hr ih
    have e2 := Mo.ix r C c (by omega) hC (by omega)
    have hb : r * C + C ≤ R * C := by
      have := Nat.mul_le_mul_right C (show r + 1 ≤ R from hr)
      rwa [Nat.succ_mul] at this
    have hb16 : R * C ≤ 4 * 4 := Nat.mul_le_mul hR hC
    have e1 : 0 < c → wrap64 (((r * C + c : Nat) : Int) - 1) = ((r * C + c - 1 : Nat) : Int) := by
      intro h0
      rw [w64 (by omega) (by omega)]; omega
    refine Ev.step (fun _ => rfl) ?_
    simp only [spec_LoopAround.l3]
    rw [w64s (by omega), e2]
    refine ev_pos (by omega) (ev_bindc (spec_LoopAround_at l _ _ ?_) (ev_bindc (spec_LoopAround_at l _ _ ?_) (ev_pos (by simp; omega) ?_)))
    · intro h0
      have h0 : 0 < c := by simpa using h0
      rw [e1 h0]
      omega
    · intro h0
      have h0 : c < C := by simpa using h0
      omega
    · have e : (List.range r).map (Mo.arD R C l c) ++ [(decide ((0 : Int) < (c : Int)) && l.getD (wrap64 (((r * C + c : Nat) : Int) - 1)).toNat false) != (decide ((c : Int) < (C : Int)) && l.getD ((r * C + c : Nat) : Int).toNat false)] = (List.range (r + 1)).map (Mo.arD R C l c) := by
        rw [List.range_succ, List.map_append]
        congr 1
        simp only [List.map_cons, List.map_nil, List.cons.injEq, and_true]
        unfold Mo.arD
        rw [Int.toNat_natCast]
        have d2 : decide ((c : Int) < (C : Int)) = decide (c < C) := decide_eq_decide.2 (by omega)
        rw [d2]
        by_cases h0 : 0 < c
        · rw [e1 h0, Int.toNat_natCast]
          have d1 : decide ((0 : Int) < (c : Int)) = decide (0 < c) := decide_eq_decide.2 (by omega)
          rw [d1]
        · have d1 : decide ((0 : Int) < (c : Int)) = false := decide_eq_false (by omega)
          have d1' : decide (0 < c) = false := decide_eq_false (by omega)
          rw [d1, d1']; rfl
      rw [e]; exact ih
theorem spec_LoopAround_ev (R C : Int) (l : List Bool) : Ev (fun k => spec_LoopAround.f k R C l) (Mo.around R C l) := by
  unfold spec_LoopAround.f
  by_cases h : Mo.Around R C l
  · have h' := h
    obtain ⟨h1, h2, h3⟩ := h
    unfold Mo.around
    rw [if_pos h']
    obtain ⟨R, rfl⟩ := Int.eq_ofNat_of_zero_le (show 0 ≤ R by omega)
    obtain ⟨C, rfl⟩ := Int.eq_ofNat_of_zero_le (show 0 ≤ C by omega)
    have hw : wrap64 ((R : Int) * (C : Int)) = ((R * C : Nat) : Int) := Mo.ix0 R C (by omega) (by omega)
    have hl : l.length = R * C := by
      have : (R : Int) * (C : Int) = ((R * C : Nat) : Int) := by simp
      omega
    refine ev_bindc (spec_l1In_eq _ _ _) (ev_pos (by simpa using h1) (ev_bindc (spec_l1In_eq _ _ _) (ev_pos (by simpa using h2) ?_)))
    simp only [spec_LoopAround.j]
    rw [hw, hl]
    refine ev_neg (by simp) ?_
    have downs : ∀ ys, ∀ c, c ≤ C + 1 → Ev (fun k => spec_LoopAround.l2 k (R : Int) (C : Int) l (c : Int) ys ((List.range c).map fun i => (List.range R).map (Mo.arD R C l i))) ((R : Int), (C : Int), ys, Mo.mk (C + 1) R (Mo.arD R C l)) := by
      intro ys
      refine up (C + 1) ?_ ?_
      · refine Ev.step (fun _ => rfl) ?_
        simp only [spec_LoopAround.l2]
        exact ev_neg (by omega) (ev_now rfl)
      · intro c hc ih
        refine Ev.step (fun _ => rfl) ?_
        simp only [spec_LoopAround.l2]
        refine ev_pos (by omega) ?_
        refine spec_LoopAround_l3 R C (by omega) (by omega) l hl c (by omega) ys _ (by simp; omega) _ ?_ 0 (by omega)
        have e : ((List.range c).map fun i => (List.range R).map (Mo.arD R C l i)) ++ [(List.range R).map (Mo.arD R C l c)] = (List.range (c + 1)).map fun i => (List.range R).map (Mo.arD R C l i) := by
          rw [List.range_succ, List.map_append]; rfl
        rw [e]; exact ih
    have rows : ∀ r, r ≤ R + 1 → Ev (fun k => spec_LoopAround.l0 k (R : Int) (C : Int) l (r : Int) ((List.range r).map fun i => (List.range C).map (Mo.arA R C l i))) ((R : Int), (C : Int), Mo.mk (R + 1) C (Mo.arA R C l), Mo.mk (C + 1) R (Mo.arD R C l)) := by
      refine up (R + 1) ?_ ?_
      · refine Ev.step (fun _ => rfl) ?_
        simp only [spec_LoopAround.l0]
        exact ev_neg (by omega) (downs _ 0 (by omega))
      · intro r hr ih
        refine Ev.step (fun _ => rfl) ?_
        simp only [spec_LoopAround.l0]
        refine ev_pos (by omega) ?_
        refine spec_LoopAround_l1 R C (by omega) (by omega) l hl r (by omega) _ (by simp; omega) _ ?_ 0 (by omega)
        have e : ((List.range r).map fun i => (List.range C).map (Mo.arA R C l i)) ++ [(List.range C).map (Mo.arA R C l r)] = (List.range (r + 1)).map fun i => (List.range C).map (Mo.arA R C l i) := by
          rw [List.range_succ, List.map_append]; rfl
        rw [e]; exact ih
    exact rows 0 (by omega)
  · have no : Ev (fun k => spec_LoopAround.j k R C l true) (Mo.around R C l) := by
      unfold Mo.around
      rw [if_neg h]
      simp only [spec_LoopAround.j]
      exact ev_pos trivial (ev_now rfl)
    refine ev_bindc (spec_l1In_eq _ _ _) ?_
    by_cases h1 : 1 ≤ R ∧ R ≤ 4
    · refine ev_pos (by simpa using h1) (ev_bindc (spec_l1In_eq _ _ _) ?_)
      by_cases h2 : 1 ≤ C ∧ C ≤ 4
      · refine ev_pos (by simpa using h2) ?_
        have e : ((l.length : Int) != wrap64 (R * C)) = true := by
          have hw : wrap64 (R * C) = R * C := by
            obtain ⟨R, rfl⟩ := Int.eq_ofNat_of_zero_le (show 0 ≤ R by omega)
            obtain ⟨C, rfl⟩ := Int.eq_ofNat_of_zero_le (show 0 ≤ C by omega)
            have := Mo.ix0 R C (by omega) (by omega)
            simpa using this
          rw [hw, bne_iff_ne]
          exact fun h3 => h ⟨h1, h2, h3⟩
        rw [e]; exact no
      · exact ev_neg (by simpa using h2) no
    · exact ev_neg (by simpa using h1) no
theorem spec_l20Inside_ev (b : List Int) (p : Int) (hb : Bytes b) (h0 : 0 ≤ p) (hp : p ≤ 900000000) :
    ∃ (R C : Nat) (l : List Bool) (p' : Int), Ev (fun k => spec_l20Inside.f k b p) ((R : Int), (C : Int), l, p') ∧ p ≤ p' ∧ p' ≤ p + 20 ∧ (1 ≤ R ∧ R ≤ 4) ∧ (1 ≤ C ∧ C ≤ 4) ∧ l.length = R * C := by
  unfold spec_l20Inside.f
  obtain ⟨r, hr, r0, r1, _⟩ := spec_l20Rd_pick_ev b p 4 hb (by omega) (by omega) (by omega)
  have r1 := r1 (by omega)
  obtain ⟨c, hc, c0, c1, _⟩ := spec_l20Rd_pick_ev b (p + 1) 4 hb (by omega) (by omega) (by omega)
  have c1 := c1 (by omega)
  obtain ⟨R, hR⟩ : ∃ R : Nat, wrap64 (1 + r) = (R : Int) := ⟨(1 + r).toNat, by rw [w64 (by omega) (by omega)]; omega⟩
  obtain ⟨C, hC⟩ : ∃ C : Nat, wrap64 (1 + c) = (C : Int) := ⟨(1 + c).toNat, by rw [w64 (by omega) (by omega)]; omega⟩
  have bR : 1 ≤ R ∧ R ≤ 4 := by rw [w64 (by omega) (by omega)] at hR; omega
  have bC : 1 ≤ C ∧ C ≤ 4 := by rw [w64 (by omega) (by omega)] at hC; omega
  have hm : wrap64 ((R : Int) * (C : Int)) = ((R * C : Nat) : Int) := Mo.ix0 R C (by omega) (by omega)
  have m1 : R * C ≤ 4 * 4 := Nat.mul_le_mul bR.2 bC.2
  have m0 : 1 * 1 ≤ R * C := Nat.mul_le_mul bR.1 bC.1
  obtain ⟨a, ha, a0, a1, _⟩ := spec_l20Rd_pick_ev b (p + 1 + 1) ((R * C : Nat) : Int) hb (by omega) (by omega) (by omega)
  have a1 := a1 (by omega)
  obtain ⟨n, hn, n0, n1, _⟩ := spec_l20Rd_pick_ev b (p + 1 + 1 + 1) 9 hb (by omega) (by omega) (by omega)
  have n1 := n1 (by omega)
  have key : ∀ (m : Nat) (l : List Bool) (a q : Int), m ≤ 9 → l.length = R * C → 0 ≤ a → a < ((R * C : Nat) : Int) → p ≤ q → q + m ≤ p + 20 →
      ∃ (l' : List Bool) (p' : Int), Ev (fun k => spec_l20Inside.l0 k (R : Int) (C : Int) l a (m : Int) b q) ((R : Int), (C : Int), l', p') ∧ p ≤ p' ∧ p' ≤ p + 20 ∧ l'.length = R * C := by
    intro m
    induction m with
    | zero =>
      intro l a q _ hl _ _ hq1 hq2
      refine ⟨l, q, Ev.step (fun _ => rfl) ?_, by omega, by omega, hl⟩
      simp only [spec_l20Inside.l0]
      exact ev_neg (by omega) (ev_now rfl)
    | succ m ih =>
      intro l a q hm9 hl ha0 ha1 hq1 hq2
      obtain ⟨d, hd, d0, d1, _⟩ := spec_l20Rd_pick_ev b q 4 hb (by omega) (by omega) (by omega)
      have d1 := d1 (by omega)
      have hk : wrap64 (((m + 1 : Nat) : Int) - 1) = (m : Int) := by rw [w64 (by omega) (by omega)]; omega
      have hs : ∃ t : Int, rd [1, (-1), (C : Int), wrap64 (-(C : Int))] d = t ∧ -4 ≤ t ∧ t ≤ 4 := by
        refine ⟨_, rfl, ?_⟩
        rw [w64 (by omega) (by omega)]
        have : d = 0 ∨ d = 1 ∨ d = 2 ∨ d = 3 := by omega
        rcases this with rfl | rfl | rfl | rfl
        · show -4 ≤ (1 : Int) ∧ (1 : Int) ≤ 4; omega
        · show -4 ≤ (-1 : Int) ∧ (-1 : Int) ≤ 4; omega
        · show -4 ≤ (C : Int) ∧ (C : Int) ≤ 4; omega
        · show -4 ≤ -(C : Int) ∧ -(C : Int) ≤ 4; omega
      obtain ⟨t, ht, t0, t1⟩ := hs
      by_cases g1 : 0 ≤ a + t
      · by_cases g2 : a + t < ((R * C : Nat) : Int)
        · obtain ⟨l', p', he, e1, e2, e3⟩ := ih (l.set (a + t).toNat true) (a + t) (q + 1) (by omega) (by simpa using hl) g1 g2 (by omega) (by omega)
          refine ⟨l', p', Ev.step (fun _ => rfl) ?_, e1, e2, e3⟩
          simp only [spec_l20Inside.l0]
          refine ev_pos (by omega) (ev_some (Ev.bind hd (ev_pos d0 (ev_pos (by simpa using d1) ?_))))
          rw [ht, hk, hm, w64 (n := a + t) (by omega) (by omega)]
          exact ev_pos g1 (ev_pos g2 (ev_pos g1 (ev_pos (by omega) he)))
        · obtain ⟨l', p', he, e1, e2, e3⟩ := ih l a (q + 1) (by omega) hl ha0 ha1 (by omega) (by omega)
          refine ⟨l', p', Ev.step (fun _ => rfl) ?_, e1, e2, e3⟩
          simp only [spec_l20Inside.l0]
          refine ev_pos (by omega) (ev_some (Ev.bind hd (ev_pos d0 (ev_pos (by simpa using d1) ?_))))
          rw [ht, hk, hm, w64 (n := a + t) (by omega) (by omega)]
          exact ev_pos g1 (ev_neg g2 he)
      · obtain ⟨l', p', he, e1, e2, e3⟩ := ih l a (q + 1) (by omega) hl ha0 ha1 (by omega) (by omega)
        refine ⟨l', p', Ev.step (fun _ => rfl) ?_, e1, e2, e3⟩
        simp only [spec_l20Inside.l0]
        refine ev_pos (by omega) (ev_some (Ev.bind hd (ev_pos d0 (ev_pos (by simpa using d1) ?_))))
        rw [ht, hk, hm, w64 (n := a + t) (by omega) (by omega)]
        exact ev_neg g1 he
  obtain ⟨N, rfl⟩ := Int.eq_ofNat_of_zero_le n0
  obtain ⟨l', p', he, e1, e2, e3⟩ := key N ((List.replicate (R * C) false).set a.toNat true) a (p + 1 + 1 + 1 + 1) (by omega) (by simp) a0 a1 (by omega) (by omega)
  refine ⟨R, C, l', p', Ev.bind hr (Ev.bind hc ?_), e1, e2, bR, bC, e3⟩
  rw [hR, hC, hm, Int.toNat_natCast]
  exact ev_pos (by omega) (ev_pos (by omega) (ev_some (Ev.bind ha (ev_pos a0 (ev_pos (by simp; omega) (Ev.bind hn he))))))
theorem impl_LoopClues_l2 (R C : Nat) (A D : List (List Bool)) (r c n0 : Nat) (xs : List Int) (hx : xs.length ≤ 100) (bs : List Bool) (hb : bs.length ≤ 4) (res : List Int)
    (h : Ev (fun k => impl_LoopClues.l1 k (xs ++ [(Mo.cntB bs : Int)]) (r : Int) (R : Int) (r : Int) (C : Int) (wrap64 ((c : Int) + 1)) (R : Int) (C : Int) A D) res) :
    ∀ i, i ≤ bs.length → ∀ n : Nat, n ≤ i → n + Mo.cntB (bs.drop i) = Mo.cntB bs → Ev (fun k => impl_LoopClues.l2 k xs (r : Int) (n : Int) (R : Int) (r : Int) (C : Int) (c : Int) bs (bs.length : Int) (i : Int) (R : Int) (C : Int) A D) res := by
  refine up bs.length ?_ ?_
  · intro n _ hn
    rw [List.drop_length] at hn
    refine Ev.step (fun _ => rfl) ?_
    simp only [impl_LoopClues.l2]
    have : n = Mo.cntB bs := by simpa [Mo.cntB] using hn
    rw [this]
    exact ev_neg (by omega) (ev_pos (by omega) h)
  · intro i hi ih n hni hn
    rw [drop_step bs i hi] at hn
    refine Ev.step (fun _ => rfl) ?_
    simp only [impl_LoopClues.l2]
    rw [rdOf_nat false bs i hi, w64s (n := n) (by omega), w64s (n := i) (by omega)]
    refine ev_pos (by omega) (ev_pos (by omega) (ev_pos (by omega) ?_))
    simp only [Mo.cntB] at hn
    cases hv : bs[i] with
    | true => exact ev_pos rfl (ih (n + 1) (by omega) (by rw [hv] at hn; simp only [Mo.b2, if_true] at hn; omega))
    | false => exact ev_neg (by simp) (ih n (by omega) (by rw [hv] at hn; simpa [Mo.b2] using hn))
theorem impl_LoopClues_ev (R C : Int) (A D : List (List Bool)) : Ev (fun k => impl_LoopClues.f k R C A D) (if Mo.FieldOk R C A D then Mo.clues R.toNat C.toNat A D else []) := by
  unfold impl_LoopClues.f
  refine Ev.bind (impl_LoopValid_ev R C A D) ?_
  by_cases h : Mo.FieldOk R C A D
  · obtain ⟨R, C, rfl, rfl, hf⟩ := h.fld
    have hR := hf.hR; have hC := hf.hC; have lA := hf.lA; have lD := hf.lD
    have hm : R * C ≤ 4 * 4 := Nat.mul_le_mul hR.2 hC.2
    refine ev_pos (by simpa using h) ?_
    rw [if_pos h, Int.toNat_natCast, Int.toNat_natCast]
    have l1 : ∀ r, r < R → (Ev (fun k => impl_LoopClues.l0 k ((List.range ((r + 1) * C)).map fun i => (Mo.cl C A D i : Int)) (R : Int) (wrap64 ((r : Int) + 1)) (R : Int) (C : Int) A D) (Mo.clues R C A D)) →
        ∀ c, c ≤ C → Ev (fun k => impl_LoopClues.l1 k ((List.range (r * C + c)).map fun i => (Mo.cl C A D i : Int)) (r : Int) (R : Int) (r : Int) (C : Int) (c : Int) (R : Int) (C : Int) A D) (Mo.clues R C A D) := by
      intro r hr hgo
      have hb : r * C + C ≤ R * C := by
        have := Nat.mul_le_mul_right C (show r + 1 ≤ R from hr)
        rwa [Nat.succ_mul] at this
      refine up C ?_ ?_
      · refine Ev.step (fun _ => rfl) ?_
        simp only [impl_LoopClues.l1]
        rw [Nat.succ_mul] at hgo
        exact ev_neg (by omega) hgo
      · intro c hc ih
        refine Ev.step (fun _ => rfl) ?_
        simp only [impl_LoopClues.l1]
        have w1 : wrap64 ((r : Int) + 1) = ((r + 1 : Nat) : Int) := w64s (by omega)
        have w2 : wrap64 ((c : Int) + 1) = ((c + 1 : Nat) : Int) := w64s (by omega)
        have a1 : (rd_L1 A (r : Int)).length = C := hf.rA r (by omega)
        have a2 : (rd_L1 A ((r + 1 : Nat) : Int)).length = C := hf.rA (r + 1) (by omega)
        have d1 : (rd_L1 D (c : Int)).length = R := hf.rD c (by omega)
        have d2 : (rd_L1 D ((c + 1 : Nat) : Int)).length = R := hf.rD (c + 1) (by omega)
        rw [w1, w2]
        refine ev_pos (by omega) (ev_pos (by omega) (ev_pos (by omega) (ev_pos (by omega) (ev_pos (by omega) (ev_pos (by omega) (ev_pos (by omega) (ev_pos (by omega) (ev_pos (by omega) (ev_pos (by omega) (ev_pos (by omega) (ev_pos (by omega) (ev_pos (by omega) (ev_some ?_)))))))))))))
        refine impl_LoopClues_l2 R C A D r c 0 _ (by simp; omega) _ (by simp) _ ?_ 0 (by simp) 0 (by omega) (by simp)
        have e : ((List.range (r * C + c)).map fun i => (Mo.cl C A D i : Int)) ++ [(Mo.cntB [rdOf false (rd_L1 A (r : Int)) (c : Int), rdOf false (rd_L1 A ((r + 1 : Nat) : Int)) (c : Int), rdOf false (rd_L1 D (c : Int)) (r : Int), rdOf false (rd_L1 D ((c + 1 : Nat) : Int)) (r : Int)] : Int)] = (List.range (r * C + (c + 1))).map fun i => (Mo.cl C A D i : Int) := by
          rw [show r * C + (c + 1) = (r * C + c) + 1 from rfl, List.range_succ, List.map_append]
          congr 1
          simp only [List.map_cons, List.map_nil, List.cons.injEq, and_true]
          rw [Mo.cl_at A D r c hc]
          congr 1
          show Mo.b2 (Mo.ga A r c) + (Mo.b2 (Mo.ga A (r + 1) c) + (Mo.b2 (Mo.ga D c r) + (Mo.b2 (Mo.ga D (c + 1) r) + 0))) = Mo.b2 (Mo.ga A r c) + Mo.b2 (Mo.ga A (r + 1) c) + Mo.b2 (Mo.ga D c r) + Mo.b2 (Mo.ga D (c + 1) r)
          omega
        rw [e, w2]; exact ih
    have l0 : ∀ r, r ≤ R → Ev (fun k => impl_LoopClues.l0 k ((List.range (r * C)).map fun i => (Mo.cl C A D i : Int)) (R : Int) (r : Int) (R : Int) (C : Int) A D) (Mo.clues R C A D) := by
      refine up R ?_ ?_
      · refine Ev.step (fun _ => rfl) ?_
        simp only [impl_LoopClues.l0]
        exact ev_neg (by omega) (ev_now rfl)
      · intro r hr ih
        refine Ev.step (fun _ => rfl) ?_
        simp only [impl_LoopClues.l0]
        refine ev_pos (by omega) (l1 r hr ?_ 0 (by omega))
        rw [w64s (by omega)]; exact ih
    have := l0 0 (by omega)
    rw [Nat.zero_mul] at this
    exact this
  · refine ev_neg (by simpa using h) (ev_now ?_)
    rw [if_neg h]
theorem fr_un (g : List (Int × Int)) (a b p : Int) : impl_LoopClosed.fr (impl_LoopClosed.un g a b) p = if impl_LoopClosed.fr g p = impl_LoopClosed.fr g a then impl_LoopClosed.fr g b else impl_LoopClosed.fr g p := by
  unfold impl_LoopClosed.un
  by_cases h : impl_LoopClosed.fr g a = impl_LoopClosed.fr g b
  · rw [if_pos h]
    by_cases e : impl_LoopClosed.fr g p = impl_LoopClosed.fr g a
    · rw [if_pos e, e, h]
    · rw [if_neg e]
  · rw [if_neg h]; rfl
theorem fr_gs_snoc (es : List (Int × Int)) (a b : Int) (ih : ∀ p q, impl_LoopClosed.fr (impl_LoopClosed.gs [] es) p = impl_LoopClosed.fr (impl_LoopClosed.gs [] es) q ↔ Rc es p q) (p q : Int) :
    impl_LoopClosed.fr (impl_LoopClosed.gs [] (es ++ [(a, b)])) p = impl_LoopClosed.fr (impl_LoopClosed.gs [] (es ++ [(a, b)])) q ↔ Rc (es ++ [(a, b)]) p q := by
  have hs : ∀ e ∈ es, e ∈ es ++ [(a, b)] := fun e he => List.mem_append.2 (.inl he)
  have hab : Rc (es ++ [(a, b)]) a b := Rc.fwd .refl (by simp)
  rw [impl_LoopClosed.gs_snoc]
  have up : ∀ p q, Rc es p q → impl_LoopClosed.fr (impl_LoopClosed.un (impl_LoopClosed.gs [] es) a b) p = impl_LoopClosed.fr (impl_LoopClosed.un (impl_LoopClosed.gs [] es) a b) q := by
    intro p q h
    rw [fr_un, fr_un, (ih p q).2 h]
  have ab : impl_LoopClosed.fr (impl_LoopClosed.un (impl_LoopClosed.gs [] es) a b) a = impl_LoopClosed.fr (impl_LoopClosed.un (impl_LoopClosed.gs [] es) a b) b := by
    rw [fr_un, fr_un, if_pos rfl]
    split
    · rfl
    · rfl
  constructor
  · intro h
    rw [fr_un, fr_un] at h
    by_cases e1 : impl_LoopClosed.fr (impl_LoopClosed.gs [] es) p = impl_LoopClosed.fr (impl_LoopClosed.gs [] es) a
    · by_cases e2 : impl_LoopClosed.fr (impl_LoopClosed.gs [] es) q = impl_LoopClosed.fr (impl_LoopClosed.gs [] es) a
      · exact ((ih p q).1 (e1.trans e2.symm)).mono hs
      · rw [if_pos e1, if_neg e2] at h
        exact (((ih p a).1 e1).mono hs).trans (hab.trans (((ih b q).1 h).mono hs))
    · by_cases e2 : impl_LoopClosed.fr (impl_LoopClosed.gs [] es) q = impl_LoopClosed.fr (impl_LoopClosed.gs [] es) a
      · rw [if_neg e1, if_pos e2] at h
        exact (((ih p b).1 h).mono hs).trans (hab.symm.trans (((ih a q).1 e2.symm).mono hs))
      · rw [if_neg e1, if_neg e2] at h
        exact ((ih p q).1 h).mono hs
  · intro h
    induction h with
    | refl => rfl
    | fwd _ he ih2 =>
      rw [ih2]
      rcases List.mem_append.1 he with he | he
      · exact up _ _ (Rc.fwd .refl he)
      · have he := List.mem_singleton.1 he
        injection he with e1 e2
        rw [e1, e2]; exact ab
    | bwd _ he ih2 =>
      rw [ih2]
      rcases List.mem_append.1 he with he | he
      · exact up _ _ (Rc.bwd .refl he)
      · have he := List.mem_singleton.1 he
        injection he with e1 e2
        rw [e1, e2]; exact ab.symm
/-- The program's groups are the joined points. -/
theorem fr_gs (es : List (Int × Int)) : ∀ p q, impl_LoopClosed.fr (impl_LoopClosed.gs [] es) p = impl_LoopClosed.fr (impl_LoopClosed.gs [] es) q ↔ Rc es p q := by
  have key : ∀ n, ∀ es : List (Int × Int), es.length = n → ∀ p q, impl_LoopClosed.fr (impl_LoopClosed.gs [] es) p = impl_LoopClosed.fr (impl_LoopClosed.gs [] es) q ↔ Rc es p q := by
    intro n
    induction n with
    | zero =>
      intro es h p q
      have := List.eq_nil_of_length_eq_zero h
      subst this
      constructor
      · intro h
        have h : p = q := h
        rw [h]; exact .refl
      · intro h
        induction h with
        | refl => rfl
        | fwd _ he _ => cases he
        | bwd _ he _ => cases he
    | succ n ih =>
      intro es h
      have hne : es ≠ [] := by intro e; rw [e] at h; cases h
      obtain ⟨es', e, rfl⟩ : ∃ es' e, es = es' ++ [e] := ⟨es.dropLast, es.getLast hne, (List.dropLast_concat_getLast hne).symm⟩
      obtain ⟨a, b⟩ := e
      exact fr_gs_snoc es' a b (ih es' (by simpa using h))
  exact key _ es rfl
theorem cn_cnt (p : Int) : ∀ es : List (Int × Int), impl_LoopClosed.cn es p = Mo.cnt es p
  | [] => rfl
  | e :: t => by rw [impl_LoopClosed.cn, Mo.cnt, cn_cnt p t]
theorem cl_closed {R C : Nat} {A D : List (List Bool)} (h : Mo.Fld R C A D) : impl_LoopClosed.cl (Mo.edges ((C : Int) + 1) A D) = true ↔ Mo.Closed R C A D := by
  cases he : Mo.edges ((C : Int) + 1) A D with
  | nil =>
    constructor
    · intro hh; cases hh
    · intro hc; exact absurd he (hc.ne_nil h)
  | cons e0 t =>
    rw [impl_LoopClosed.cl_good, h.closed_iff he]
    unfold impl_LoopClosed.Good
    constructor
    · intro hg p hp
      rw [← cn_cnt] at hp
      obtain ⟨h1, h2⟩ := hg p hp
      rw [← cn_cnt]
      exact ⟨h1, (fr_gs _ _ _).1 h2⟩
    · intro hg p hp
      rw [cn_cnt] at hp
      obtain ⟨h1, h2⟩ := hg p hp
      rw [cn_cnt]
      exact ⟨h1, (fr_gs _ _ _).2 h2⟩
theorem impl_LoopClosed_ev (R C : Int) (A D : List (List Bool)) : ∃ b, Ev (fun k => impl_LoopClosed.f k R C A D) b ∧ (b = true ↔ Mo.FieldOk R C A D ∧ Mo.Closed R.toNat C.toNat A D) := by
  unfold impl_LoopClosed.f
  by_cases h : Mo.FieldOk R C A D
  · obtain ⟨R', C', rfl, rfl, hf⟩ := h.fld
    have hR := hf.hR; have hC := hf.hC
    refine ⟨impl_LoopClosed.cl (Mo.edges ((C' : Int) + 1) A D), Ev.bind (impl_LoopValid_ev _ _ A D) (ev_pos (by simpa using h) (Ev.bind (impl_edgesOf_ev R' C' A D hf) ?_)), ?_⟩
    · have e : ((Mo.edges ((C' : Int) + 1) A D).map toE).map impl_LoopClosed.pr = Mo.edges ((C' : Int) + 1) A D := by
        rw [List.map_map]
        have : impl_LoopClosed.pr ∘ toE = id := by funext p; rfl
        rw [this, List.map_id]
      rw [e]
      have hl := hf.edges_length ((C' : Int) + 1)
      have hn := hf.na_le
      refine ev_pos (by rw [List.length_map, hl]; omega) (ev_pos (fun e he => ?_) (ev_now rfl))
      have hb := hf.end_pt he
      have := Mo.np_le hR.2 hC.2
      exact ⟨wf_i64.2 (by omega), wf_i64.2 (by omega)⟩
    · rw [cl_closed hf]
      simp only [Int.toNat_natCast]
      exact ⟨fun hc => ⟨h, hc⟩, fun hc => hc.2⟩
  · exact ⟨false, Ev.bind (impl_LoopValid_ev _ _ A D) (ev_neg (by simpa using h) (ev_now rfl)), by simp [h]⟩
theorem laws_sameFlags_ev (a b : List Bool) (ha : a.length ≤ 4611686018427387904) : Ev (fun k => laws_sameFlags.f k a b) (decide (a = b)) := by
  have key : b.length = a.length → ∀ i, i ≤ a.length → Ev (fun k => laws_sameFlags.l0 k a b (i : Int)) (decide (a.drop i = b.drop i)) := by
    intro hl
    refine up a.length ?_ ?_
    · refine Ev.step (fun _ => rfl) ?_
      simp only [laws_sameFlags.l0]
      refine ev_neg (by omega) (ev_now ?_)
      rw [List.drop_length, ← hl, List.drop_length]; simp
    · intro i hi ih
      refine Ev.step (fun _ => rfl) ?_
      simp only [laws_sameFlags.l0]
      refine ev_pos (by omega) (ev_pos (by omega) (ev_pos (by omega) ?_))
      rw [rdOf_nat false a i hi, rdOf_nat false b i (by omega), w64s (by omega), drop_step a i hi, drop_step b i (by omega)]
      by_cases e : a[i] = b[i]
      · refine ev_neg (by simp [e]) (ev_of_eq ih ?_); rw [decide_eq_decide, List.cons.injEq]; exact ⟨fun h => ⟨e, h⟩, fun h => h.2⟩
      · refine ev_pos (by simp [e]) (ev_now ?_); symm; rw [decide_eq_false_iff_not, List.cons.injEq]; exact fun h => e h.1
  unfold laws_sameFlags.f
  by_cases hl : b.length = a.length
  · exact ev_pos (by omega) (by simpa using key hl 0 (by omega))
  · refine ev_neg (by omega) (ev_now ?_)
    have : a ≠ b := fun e => hl (by rw [e])
    simp [this]
theorem laws_sameLoop_same (R C : Int) (A D : List (List Bool)) (hA : Mo.Short A) (hD : Mo.Short D) : Ev (fun k => laws_sameLoop.f k R C A D R C A D) true := by
  have l1 : ∀ i, i ≤ D.length → Ev (fun k => laws_sameLoop.l1 k (i : Int) R C A D R C A D) true := by
    refine up D.length ?_ ?_
    · refine Ev.step (fun _ => rfl) ?_
      simp only [laws_sameLoop.l1]
      exact ev_neg (by omega) (ev_now rfl)
    · intro i hi ih
      have e1 : rd_L1 D (i : Int) = D[i] := by unfold rd_L1; simp [hi]
      have hx := hD.2 D[i] (List.getElem_mem _)
      have := hD.1
      refine Ev.step (fun _ => rfl) ?_
      simp only [laws_sameLoop.l1]
      refine ev_pos (by omega) (ev_pos (by omega) (ev_pos (by omega) ?_))
      rw [e1, w64s (by omega)]
      exact Ev.bind (laws_sameFlags_ev _ _ (by omega)) (ev_pos (by simp) ih)
  have l0 : ∀ i, i ≤ A.length → Ev (fun k => laws_sameLoop.l0 k (i : Int) R C A D R C A D) true := by
    refine up A.length ?_ ?_
    · refine Ev.step (fun _ => rfl) ?_
      simp only [laws_sameLoop.l0]
      exact ev_neg (by omega) (l1 0 (by omega))
    · intro i hi ih
      have e1 : rd_L1 A (i : Int) = A[i] := by unfold rd_L1; simp [hi]
      have hx := hA.2 A[i] (List.getElem_mem _)
      have := hA.1
      refine Ev.step (fun _ => rfl) ?_
      simp only [laws_sameLoop.l0]
      refine ev_pos (by omega) (ev_pos (by omega) (ev_pos (by omega) ?_))
      rw [e1, w64s (by omega)]
      exact Ev.bind (laws_sameFlags_ev _ _ (by omega)) (ev_pos (by simp) ih)
  unfold laws_sameLoop.f
  refine ev_pos rfl (ev_pos rfl (ev_pos rfl (Ev.step (fun _ => rfl) ?_)))
  simp only [laws_sameLoop.j0]
  exact ev_neg (by simp) (l0 0 (by omega))
theorem impl_LoopAround_g (R C : Nat) (hR : R ≤ 4) (hC : C ≤ 4) (l : List Bool) (hl : l.length = R * C) (y x : Nat) (hy : y ≤ R + 1) (hx : x ≤ C + 1) :
    impl_LoopAround.g (R : Int) (C : Int) l ((y : Int) - 1) ((x : Int) - 1) = some (Mo.jn R C l y x) := by
  unfold impl_LoopAround.g
  by_cases h1 : 0 < y
  · rw [if_pos (by omega)]
    by_cases h2 : y ≤ R
    · rw [if_pos (by omega)]
      by_cases h3 : 0 < x
      · rw [if_pos (by omega)]
        by_cases h4 : x ≤ C
        · rw [if_pos (by omega)]
          have e1 : ((y : Int) - 1) = ((y - 1 : Nat) : Int) := by omega
          have e2 : ((x : Int) - 1) = ((x - 1 : Nat) : Int) := by omega
          have hlt := Mo.ix_lt (r := y - 1) (R := R) (C := C) (c := x - 1) (by omega) (by omega)
          rw [e1, e2, Mo.ix (y - 1) C (x - 1) (by omega) hC (by omega), if_pos (by omega), if_pos (by omega), rdOf_nat false l _ (by omega)]
          unfold Mo.jn
          rw [decide_eq_true (by omega)]
          simp [hl, hlt]
        · rw [if_neg (by omega), Mo.jn_out (by omega)]
      · rw [if_neg (by omega), Mo.jn_out (by omega)]
    · rw [if_neg (by omega), Mo.jn_out (by omega)]
  · rw [if_neg (by omega), Mo.jn_out (by omega)]
theorem impl_LoopAround_ev (R C : Int) (l : List Bool) (hl0 : l.length ≤ 1048576) : Ev (fun k => impl_LoopAround.f k R C l) (Mo.around R C l) := by
  have hbad : impl_LoopAround.bad R C l = !decide (Mo.Around R C l) := by
    unfold impl_LoopAround.bad
    by_cases h1 : R < 1
    · rw [if_pos h1, decide_eq_false (fun hh => by have := hh.1; omega)]; rfl
    · rw [if_neg h1]
      by_cases h2 : R > 4
      · rw [if_pos h2, decide_eq_false (fun hh => by have := hh.1; omega)]; rfl
      · rw [if_neg h2]
        by_cases h3 : C < 1
        · rw [if_pos h3, decide_eq_false (fun hh => by have := hh.2.1; omega)]; rfl
        · rw [if_neg h3]
          by_cases h4 : C > 4
          · rw [if_pos h4, decide_eq_false (fun hh => by have := hh.2.1; omega)]; rfl
          · rw [if_neg h4]
            have hw : wrap64 (R * C) = R * C := by
              obtain ⟨R, rfl⟩ := Int.eq_ofNat_of_zero_le (show 0 ≤ R by omega)
              obtain ⟨C, rfl⟩ := Int.eq_ofNat_of_zero_le (show 0 ≤ C by omega)
              have := Mo.ix0 R C (by omega) (by omega)
              simpa using this
            rw [hw]
            by_cases h5 : (l.length : Int) = R * C
            · have e : ((l.length : Int) != R * C) = false := by simp [h5]
              rw [e, decide_eq_true (show Mo.Around R C l from ⟨⟨by omega, by omega⟩, ⟨by omega, by omega⟩, h5⟩)]; rfl
            · have e : ((l.length : Int) != R * C) = true := by simpa using h5
              rw [e, decide_eq_false (fun hh => h5 hh.2.2)]; rfl
  unfold impl_LoopAround.f
  rw [hbad]
  by_cases h : Mo.Around R C l
  · refine ev_neg (by simpa using h) ?_
    obtain ⟨h1, h2, h3⟩ := h
    obtain ⟨R, rfl⟩ := Int.eq_ofNat_of_zero_le (show 0 ≤ R by omega)
    obtain ⟨C, rfl⟩ := Int.eq_ofNat_of_zero_le (show 0 ≤ C by omega)
    have hl : l.length = R * C := by
      have : (R : Int) * (C : Int) = ((R * C : Nat) : Int) := by simp
      omega
    rw [Mo.around_pos (by omega) (by omega) hl]
    have wR : Unit → wrap64 ((R : Int) + 1) = (R : Int) + 1 := fun _ => w64 (by omega) (by omega)
    have wC : Unit → wrap64 ((C : Int) + 1) = (C : Int) + 1 := fun _ => w64 (by omega) (by omega)
    have l3 : ∀ (c : Nat), c ≤ C → ∀ ys xs res, xs.length ≤ 5 → Ev (fun k => impl_LoopAround.l2 k (R : Int) (C : Int) l ((c + 1 : Nat) : Int) ys (xs ++ [(List.range R).map (Mo.arD R C l c)])) res →
        ∀ r, r ≤ R → Ev (fun k => impl_LoopAround.l3 k (R : Int) (C : Int) l (c : Int) ((List.range r).map (Mo.arD R C l c)) (r : Int) ys xs) res := by
      intro c hc ys xs res hx hgo
      refine up R ?_ ?_
      · refine Ev.step (fun _ => rfl) ?_
        simp only [impl_LoopAround.l3]
        rw [w64s (n := c) (by omega)]
        exact ev_neg (by omega) (ev_pos (by omega) hgo)
      · intro r hr ih
        have g1 := impl_LoopAround_g R C (by omega) (by omega) l hl (r + 1) c (by omega) (by omega)
        have g2 := impl_LoopAround_g R C (by omega) (by omega) l hl (r + 1) (c + 1) (by omega) (by omega)
        have e1 : (((r + 1 : Nat) : Int) - 1) = (r : Int) := by omega
        have e2 : (((c + 1 : Nat) : Int) - 1) = (c : Int) := by omega
        rw [e1] at g1 g2
        rw [e2] at g2
        refine Ev.step (fun _ => rfl) ?_
        simp only [impl_LoopAround.l3]
        rw [w64s (n := r) (by omega), w64 (n := (c : Int) - 1) (by omega) (by omega)]
        refine ev_pos (by omega) (ev_bindc g1 (ev_bindc g2 (ev_pos (by simp; omega) ?_)))
        have e : (List.range r).map (Mo.arD R C l c) ++ [Mo.jn R C l (r + 1) c != Mo.jn R C l (r + 1) (c + 1)] = (List.range (r + 1)).map (Mo.arD R C l c) := by
          rw [List.range_succ, List.map_append, ← Mo.arD_jn l hr hc]; rfl
        rw [e]; exact ih
    have l1 : ∀ (r : Nat), r ≤ R → ∀ xs res, xs.length ≤ 5 → Ev (fun k => impl_LoopAround.l0 k (R : Int) (C : Int) l ((r + 1 : Nat) : Int) (xs ++ [(List.range C).map (Mo.arA R C l r)])) res →
        ∀ c, c ≤ C → Ev (fun k => impl_LoopAround.l1 k (R : Int) (C : Int) l (r : Int) ((List.range c).map (Mo.arA R C l r)) (c : Int) xs) res := by
      intro r hr xs res hx hgo
      refine up C ?_ ?_
      · refine Ev.step (fun _ => rfl) ?_
        simp only [impl_LoopAround.l1]
        rw [w64s (n := r) (by omega)]
        exact ev_neg (by omega) (ev_pos (by omega) hgo)
      · intro c hc ih
        have g1 := impl_LoopAround_g R C (by omega) (by omega) l hl r (c + 1) (by omega) (by omega)
        have g2 := impl_LoopAround_g R C (by omega) (by omega) l hl (r + 1) (c + 1) (by omega) (by omega)
        have e1 : (((r + 1 : Nat) : Int) - 1) = (r : Int) := by omega
        have e2 : (((c + 1 : Nat) : Int) - 1) = (c : Int) := by omega
        rw [e1, e2] at g2
        rw [e2] at g1
        refine Ev.step (fun _ => rfl) ?_
        simp only [impl_LoopAround.l1]
        rw [w64s (n := c) (by omega), w64 (n := (r : Int) - 1) (by omega) (by omega)]
        refine ev_pos (by omega) (ev_bindc g1 (ev_bindc g2 (ev_pos (by simp; omega) ?_)))
        have e : (List.range c).map (Mo.arA R C l r) ++ [Mo.jn R C l r (c + 1) != Mo.jn R C l (r + 1) (c + 1)] = (List.range (c + 1)).map (Mo.arA R C l r) := by
          rw [List.range_succ, List.map_append, ← Mo.arA_jn l hr hc]; rfl
        rw [e]; exact ih
    have downs : ∀ ys, ∀ c, c ≤ C + 1 → Ev (fun k => impl_LoopAround.l2 k (R : Int) (C : Int) l (c : Int) ys ((List.range c).map fun i => (List.range R).map (Mo.arD R C l i))) ((R : Int), (C : Int), ys, Mo.mk (C + 1) R (Mo.arD R C l)) := by
      intro ys
      refine up (C + 1) ?_ ?_
      · refine Ev.step (fun _ => rfl) ?_
        simp only [impl_LoopAround.l2]
        rw [wC ()]
        exact ev_neg (by omega) (ev_now rfl)
      · intro c hc ih
        refine Ev.step (fun _ => rfl) ?_
        simp only [impl_LoopAround.l2]
        rw [wC ()]
        refine ev_pos (by omega) ?_
        refine l3 c (by omega) ys _ _ (by simp; omega) ?_ 0 (by omega)
        have e : ((List.range c).map fun i => (List.range R).map (Mo.arD R C l i)) ++ [(List.range R).map (Mo.arD R C l c)] = (List.range (c + 1)).map fun i => (List.range R).map (Mo.arD R C l i) := by
          rw [List.range_succ, List.map_append]; rfl
        rw [e]; exact ih
    have rows : ∀ r, r ≤ R + 1 → Ev (fun k => impl_LoopAround.l0 k (R : Int) (C : Int) l (r : Int) ((List.range r).map fun i => (List.range C).map (Mo.arA R C l i))) ((R : Int), (C : Int), Mo.mk (R + 1) C (Mo.arA R C l), Mo.mk (C + 1) R (Mo.arD R C l)) := by
      refine up (R + 1) ?_ ?_
      · refine Ev.step (fun _ => rfl) ?_
        simp only [impl_LoopAround.l0]
        rw [wR ()]
        exact ev_neg (by omega) (downs _ 0 (by omega))
      · intro r hr ih
        refine Ev.step (fun _ => rfl) ?_
        simp only [impl_LoopAround.l0]
        rw [wR ()]
        refine ev_pos (by omega) ?_
        refine l1 r (by omega) _ _ (by simp; omega) ?_ 0 (by omega)
        have e : ((List.range r).map fun i => (List.range C).map (Mo.arA R C l i)) ++ [(List.range C).map (Mo.arA R C l r)] = (List.range (r + 1)).map fun i => (List.range C).map (Mo.arA R C l i) := by
          rw [List.range_succ, List.map_append]; rfl
        rw [e]; exact ih
    exact rows 0 (by omega)
  · refine ev_pos (by simpa using h) (ev_now ?_)
    unfold Mo.around
    rw [if_neg h]
theorem spec_DrawLoopAround_ev (l : List Int) (hw : ∀ x ∈ l, (Lit.int .u8 x).wf = true) : ∃ (R C : Int) (x : List Bool), Ev (fun k => spec_DrawLoopAround.f k l) (R, C, x) ∧ x.length ≤ 16 := by
  obtain ⟨b, hb, hB⟩ := spec_l20Open_ev l hw
  obtain ⟨R, C, x, p, hi, p0, p1, hR, hC, hx⟩ := spec_l20Inside_ev b 0 hB (by omega) (by omega)
  have hl : R * C ≤ 4 * 4 := Nat.mul_le_mul (by omega) (by omega)
  obtain ⟨o, p2, ho, q0, q1, _⟩ := spec_l20Rd_odd_ev b p 6 hB (by omega) (by omega) (by omega)
  unfold spec_DrawLoopAround.f
  cases o with
  | false => exact ⟨R, C, x, ev_bindc hb (Ev.bind hi (Ev.bind ho (ev_neg (by simp) (ev_now rfl)))), by omega⟩
  | true =>
    obtain ⟨c, hc, c0, c1, _⟩ := spec_l20Rd_pick_ev b p2 3 hB (by omega) (by omega) (by omega)
    have c1 := c1 (by omega)
    by_cases e0 : c = 0
    · obtain ⟨d, hd, d0, d1, _⟩ := spec_l20Rd_pick_ev b (p2 + 1) 2 hB (by omega) (by omega) (by omega)
      have d1 := d1 (by omega)
      exact ⟨rd [0, 5] d, C, x, ev_bindc hb (Ev.bind hi (Ev.bind ho (ev_pos rfl (Ev.bind hc (ev_pos e0 (ev_some (Ev.bind hd (ev_pos d0 (ev_pos (by simpa using d1) (ev_now rfl)))))))))), by omega⟩
    · by_cases e1 : c = 1
      · have h1 : 1 * 1 ≤ R * C := Nat.mul_le_mul hR.1 hC.1
        refine ⟨R, C, x.drop 1, ev_bindc hb (Ev.bind hi (Ev.bind ho (ev_pos rfl (Ev.bind hc (ev_neg e0 (ev_pos e1 (ev_pos (show (1 : Int) ≤ (x.length : Int) by omega) (ev_now rfl)))))))), by simp; omega⟩
      · exact ⟨R, _, x, ev_bindc hb (Ev.bind hi (Ev.bind ho (ev_pos rfl (Ev.bind hc (ev_neg e0 (ev_neg e1 (ev_now rfl))))))), by omega⟩
end XFnLoopCells
open XFnLoopCells
theorem one_ok : ∀ R, R < 4 → ∀ C, C < 4 → ∀ a, a < (R + 1) * (C + 1) →
    (impl_LoopClosed.cl (Mo.edges (((C + 1 : Nat) : Int) + 1) (Mo.mk (R + 1 + 1) (C + 1) (Mo.arA (R + 1) (C + 1) ((List.replicate ((R + 1) * (C + 1)) false).set a true))) (Mo.mk (C + 1 + 1) (R + 1) (Mo.arD (R + 1) (C + 1) ((List.replicate ((R + 1) * (C + 1)) false).set a true)))) = true
      ∧ Mo.nEdges (R + 1) (C + 1) (Mo.mk (R + 1 + 1) (C + 1) (Mo.arA (R + 1) (C + 1) ((List.replicate ((R + 1) * (C + 1)) false).set a true))) (Mo.mk (C + 1 + 1) (R + 1) (Mo.arD (R + 1) (C + 1) ((List.replicate ((R + 1) * (C + 1)) false).set a true))) = 4
      ∧ Mo.cl (C + 1) (Mo.mk (R + 1 + 1) (C + 1) (Mo.arA (R + 1) (C + 1) ((List.replicate ((R + 1) * (C + 1)) false).set a true))) (Mo.mk (C + 1 + 1) (R + 1) (Mo.arD (R + 1) (C + 1) ((List.replicate ((R + 1) * (C + 1)) false).set a true))) a = 4) := by
  decide +kernel
theorem FnLoopCells : laws_FnLoopCells.Pure := by
  intro l _ _ hw
  refine Ev.rounds (r := true) ?_
  unfold laws_FnLoopCells.f
  by_cases hl : (l.length : Int) > 1048576
  · exact ev_pos hl (ev_now rfl)
  refine ev_neg hl ?_
  obtain ⟨R, C, x, hd, hx⟩ := spec_DrawLoopAround_ev l hw
  obtain ⟨s1, s2⟩ := Mo.around_short R C x
  refine Ev.bind hd (Ev.bind (impl_LoopAround_ev R C x (by omega)) (Ev.bind (spec_LoopAround_ev R C x) (Ev.bind (laws_sameLoop_same _ _ _ _ s1 s2) (ev_pos rfl ?_))))
  have out : Ev (fun k => laws_FnLoopCells.j0 k l R C true) true := by
    refine Ev.step (fun _ => rfl) ?_
    simp only [laws_FnLoopCells.j0]
    exact ev_pos (by simp) (Ev.bind laws_alive_ev (ev_now rfl))
  show Ev (fun k => if R < 1 then laws_FnLoopCells.j0 k l R C true else if C < 1 then laws_FnLoopCells.j0 k l R C true else if R > 4 then laws_FnLoopCells.j0 k l R C true else laws_FnLoopCells.j0 k l R C (decide (C > 4))) true
  by_cases h1 : R < 1
  · exact ev_pos h1 out
  refine ev_neg h1 ?_
  by_cases h2 : C < 1
  · exact ev_pos h2 out
  refine ev_neg h2 ?_
  by_cases h3 : R > 4
  · exact ev_pos h3 out
  refine ev_neg h3 ?_
  by_cases h4 : C > 4
  · rw [decide_eq_true h4]; exact out
  rw [decide_eq_false h4]
  refine Ev.step (fun _ => rfl) ?_
  simp only [laws_FnLoopCells.j0]
  obtain ⟨R, rfl⟩ : ∃ n : Nat, R = ((n + 1 : Nat) : Int) := ⟨(R - 1).toNat, by omega⟩
  obtain ⟨C, rfl⟩ : ∃ n : Nat, C = ((n + 1 : Nat) : Int) := ⟨(C - 1).toNat, by omega⟩
  have hm : wrap64 (((R + 1 : Nat) : Int) * ((C + 1 : Nat) : Int)) = (((R + 1) * (C + 1) : Nat) : Int) := Mo.ix0 (R + 1) (C + 1) (by omega) (by omega)
  have m1 : (R + 1) * (C + 1) ≤ 4 * 4 := Nat.mul_le_mul (by omega) (by omega)
  have m0 : 1 * 1 ≤ (R + 1) * (C + 1) := Nat.mul_le_mul (by omega) (by omega)
  have ha : (l.length : Int) % (((R + 1) * (C + 1) : Nat) : Int) = ((l.length % ((R + 1) * (C + 1)) : Nat) : Int) := (Int.natCast_emod _ _).symm
  have hlt : l.length % ((R + 1) * (C + 1)) < (R + 1) * (C + 1) := Nat.mod_lt _ (by omega)
  rw [hm, Int.toNat_natCast, ha, Int.toNat_natCast]
  generalize hat : l.length % ((R + 1) * (C + 1)) = a at hlt
  obtain ⟨o1, o2, o3⟩ := one_ok R (by omega) C (by omega) a hlt
  have hxl : ((List.replicate ((R + 1) * (C + 1)) false).set a true).length = (R + 1) * (C + 1) := by simp
  have har := Mo.around_pos (R := R + 1) (C := C + 1) (by omega) (by omega) hxl
  have hai := impl_LoopAround_ev ((R + 1 : Nat) : Int) ((C + 1 : Nat) : Int) ((List.replicate ((R + 1) * (C + 1)) false).set a true) (by omega)
  rw [har] at hai
  have hf := Mo.Fld.of_mk (R := R + 1) (C := C + 1) (by omega) (by omega) (Mo.arA (R + 1) (C + 1) ((List.replicate ((R + 1) * (C + 1)) false).set a true)) (Mo.arD (R + 1) (C + 1) ((List.replicate ((R + 1) * (C + 1)) false).set a true))
  have hc := (cl_closed hf).1 o1
  generalize Mo.mk (R + 1 + 1) (C + 1) (Mo.arA (R + 1) (C + 1) ((List.replicate ((R + 1) * (C + 1)) false).set a true)) = A at *
  generalize Mo.mk (C + 1 + 1) (R + 1) (Mo.arD (R + 1) (C + 1) ((List.replicate ((R + 1) * (C + 1)) false).set a true)) = D at *
  obtain ⟨b, hb, hbi⟩ := impl_LoopClosed_ev ((R + 1 : Nat) : Int) ((C + 1 : Nat) : Int) A D
  have eb : b = true := hbi.2 ⟨hf.ok, by simpa only [Int.toNat_natCast] using hc⟩
  subst eb
  have hcl := impl_LoopClues_ev ((R + 1 : Nat) : Int) ((C + 1 : Nat) : Int) A D
  have hle := impl_LoopLength_ev ((R + 1 : Nat) : Int) ((C + 1 : Nat) : Int) A D
  rw [if_pos hf.ok] at hcl hle
  simp only [Int.toNat_natCast] at hcl hle
  rw [o2] at hle
  refine ev_neg (by simp) (ev_pos (by omega) (ev_pos (by omega) (ev_some (ev_neg (by omega) (ev_pos (by omega) (ev_pos (show (a : Int) < ((List.replicate ((R + 1) * (C + 1)) false).length : Int) by rw [List.length_replicate]; omega) (Ev.bind hai (Ev.bind hcl (Ev.bind hb (ev_pos rfl (Ev.bind hle (ev_pos rfl (ev_pos ?_ (ev_pos ?_ (ev_now ?_)))))))))))))))
  · rw [Mo.clues_length]
  · rw [Mo.clues_length]; omega
  · rw [Mo.clues_get _ _ _ _ _ hlt, o3]; rfl

end Go.Proofs.Ytdinbpfklikghaa.Pure
