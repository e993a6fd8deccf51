/- LoopInside: the edges around the cells that are inside are the loop, and some cell is inside, at every drawn set of edges. No conditions. -/
import Derived.Test.YtdinbpfklikghaaPLoopsx45
import Derived.Test.YtdinbpfklikghaaMo
import Derived.Test.YtdinbpfklikghaaLo
set_option linter.unusedSimpArgs false
set_option linter.unusedVariables false
set_option maxRecDepth 4000
namespace Go.Proofs.Ytdinbpfklikghaa.Pure
open Go.RowKit Go.Proofs.Ytdinbpfklikghaa.PLoops Go.Proofs.Ytdinbpfklikghaa.Pk Go.Proofs.Ytdinbpfklikghaa.Mo Go.Proofs.YtdinbpfklikghaaW.PrintWords Go.Proofs.YtdinbpfklikghaaW.PrintLast

namespace XFnLoopInside
theorem spec_l1In_eq (n lo hi : Int) : spec_l1In.f n lo hi = some (decide (lo ≤ n ∧ n ≤ hi)) := by
 unfold spec_l1In.f
 by_cases h : n ≥ lo
 ·rw [if_pos h]; simp [show lo ≤ n from h]
 ·rw [if_neg h]; simp [show ¬ lo ≤ n from h]
theorem laws_alive_ev : Ev (fun k => laws_alive.f k) true := Ev.of laws_alive.mono (k := 12) (by decide +kernel)
def Bytes (b : List Int) : Prop := b.length ≤ 2000 ∧ ∀ x ∈ b, 0 ≤ x ∧ x ≤ 255
theorem spec_l20Open_ev (l : List Int) (hw : ∀ x ∈ l, (Lit.int .u8 x).wf = true) : ∃ b, spec_l20Open.f l = some (b, 0) ∧ Bytes b := by
 unfold spec_l20Open.f
 by_cases h : (l.length : Int) > 2000
 ·refine ⟨l.take 2000, ?_, ?_, fun x hx => wf_u8.1 (hw x (List.mem_of_mem_take hx))⟩
  ·rw [if_pos h, if_pos (by omega)]
  ·simp; omega
 ·exact ⟨l, by rw [if_neg h], by omega, fun x hx => wf_u8.1 (hw x hx)⟩
theorem spec_l20Rd_pick_ev (b : List Int) (p n : Int) (hb : Bytes b) (h0 : 0 ≤ p) (hp : p ≤ 1000000000) (hn : n ≤ 1000000000) :
  ∃ r, Ev (fun k => spec_l20Rd_pick.f k b p n) (r, p + 1) ∧ 0 ≤ r ∧ (1 ≤ n → r < n) ∧ (n < 1 → r = 0) := by
 unfold spec_l20Rd_pick.f
 rw [w64 (n := p + 1) (by omega) (by omega)]
 by_cases hn1 : n < 1
 ·refine ⟨0, ev_pos hn1 (Ev.step (fun _ => rfl) ?_), by omega, by omega, fun _ => rfl⟩
  simp only [spec_l20Rd_pick.j0]
  exact ev_pos trivial (ev_now rfl)
 ·by_cases hl : b.length = 0
  ·refine ⟨0, ev_neg hn1 (Ev.step (fun _ => rfl) ?_), by omega, by omega, by omega⟩
   simp only [spec_l20Rd_pick.j0]
   exact ev_pos (by simp [hl]) (ev_now rfl)
  ·have hmem : ∀ i : Int, 0 ≤ i → i < b.length → 0 ≤ rd b i ∧ rd b i ≤ 255 := fun i h h' => hb.2 _ (rd_mem b i h h')
   have hne : ¬ (((b.length : Int) == 0) = true) := fun h => hl (by have := eq_of_beq h; omega)
   have hp1 : wrap64 (p + 1 - 1) = p := by rw [w64 (by omega) (by omega)]; omega
   by_cases hk : p < b.length
   ·have hr := hmem p h0 hk
    refine ⟨Int.tmod (wrap64 (rd b p)) n, ev_neg hn1 (Ev.step (fun _ => rfl) ?_), ?_, ?_, by omega⟩
    ·simp only [spec_l20Rd_pick.j0]
     rw [hp1]
     exact ev_neg hne (ev_pos hk (ev_pos h0 (ev_neg (by omega) (ev_now rfl))))
    ·rw [w64 (by omega) (by omega), Int.tmod_eq_emod_of_nonneg (by omega)]; exact Int.emod_nonneg _ (by omega)
    ·intro _; rw [w64 (by omega) (by omega), Int.tmod_eq_emod_of_nonneg (by omega)]; exact Int.emod_lt_of_pos _ (by omega)
   ·have hL : (0 : Int) < b.length := by omega
    have e7 : wrap64 (wrap64 (p * 7) + 3) = p * 7 + 3 := by rw [w64 (n := p * 7) (by omega) (by omega), w64 (by omega) (by omega)]
    have m1 : Int.tmod p b.length = p % b.length := Int.tmod_eq_emod_of_nonneg h0
    have m2 : Int.tmod (p * 7 + 3) b.length = (p * 7 + 3) % b.length := Int.tmod_eq_emod_of_nonneg (by omega)
    have a1 := Int.emod_nonneg p (b := (b.length : Int)) (by omega)
    have a2 := Int.emod_lt_of_pos p hL
    have b1 := Int.emod_nonneg (p * 7 + 3) (b := (b.length : Int)) (by omega)
    have b2 := Int.emod_lt_of_pos (p * 7 + 3) hL
    have r1 := hmem _ a1 a2
    have r2 := hmem _ b1 b2
    have d0 : 0 ≤ Int.tdiv p b.length := by rw [Int.tdiv_eq_ediv_of_nonneg h0]; exact Int.ediv_nonneg h0 (by omega)
    have d1 : Int.tdiv p b.length ≤ p := by rw [Int.tdiv_eq_ediv_of_nonneg h0]; exact Int.ediv_le_self _ h0
    generalize hx : wrap64 (wrap64 (wrap64 (wrap64 (wrap64 (rd b (p % b.length)) * 131) + wrap64 (wrap64 (rd b ((p * 7 + 3) % b.length)) * 1117)) + wrap64 (p * 29)) + wrap64 (wrap64 (Int.tdiv p b.length) * 53)) = x
    have hx0 : 0 ≤ x ∧ x ≤ 100000000000 := by
     rw [← hx]
     rw [w64 (n := rd b (p % b.length)) (by omega) (by omega), w64 (n := rd b ((p * 7 + 3) % b.length)) (by omega) (by omega), w64 (n := Int.tdiv p b.length) (by omega) (by omega)]
     rw [w64 (n := rd b (p % b.length) * 131) (by omega) (by omega), w64 (n := rd b ((p * 7 + 3) % b.length) * 1117) (by omega) (by omega), w64 (n := p * 29) (by omega) (by omega), w64 (n := Int.tdiv p b.length * 53) (by omega) (by omega)]
     rw [w64 (n := rd b (p % b.length) * 131 + rd b ((p * 7 + 3) % b.length) * 1117) (by omega) (by omega)]
     rw [w64 (n := rd b (p % b.length) * 131 + rd b ((p * 7 + 3) % b.length) * 1117 + p * 29) (by omega) (by omega)]
     rw [w64 (by omega) (by omega)]
     omega
    have hq : wrap64 (Int.tdiv x 64) = x / 64 := by rw [Int.tdiv_eq_ediv_of_nonneg hx0.1, w64 (by omega) (by omega)]
    have hz : 0 ≤ Go.bits .xor .i64 x (x / 64) := xor_nonneg _ _ (by omega) (by omega) (by omega) (by omega)
    refine ⟨Int.tmod (Go.bits .xor .i64 x (x / 64)) n, ev_neg hn1 (Ev.step (fun _ => rfl) ?_), ?_, ?_, by omega⟩
    ·simp only [spec_l20Rd_pick.j0]
     rw [hp1, e7, m1, m2, hx, hq]
     exact ev_neg hne (ev_neg hk (ev_neg (by omega) (ev_pos a1 (ev_pos a2 (ev_pos b1 (ev_pos b2 (ev_neg (by omega) (ev_now rfl))))))))
    ·rw [Int.tmod_eq_emod_of_nonneg hz]; exact Int.emod_nonneg _ (by omega)
    ·intro _; rw [Int.tmod_eq_emod_of_nonneg hz]; exact Int.emod_lt_of_pos _ (by omega)
theorem spec_l20Rd_odd_ev (b : List Int) (p n : Int) (hb : Bytes b) (h0 : 0 ≤ p) (hp : p ≤ 1000000000) (hn : n ≤ 1000000000) :
  ∃ r p', Ev (fun k => spec_l20Rd_odd.f k b p n) (r, p') ∧ p ≤ p' ∧ p' ≤ p + 1 ∧ (n ≤ 0 → r = false ∧ p' = p) := by
 unfold spec_l20Rd_odd.f
 by_cases h : n > 0
 ·obtain ⟨r, hr, _⟩ := spec_l20Rd_pick_ev b p n hb h0 hp hn
  exact ⟨_, _, ev_pos h (Ev.bind hr (ev_now rfl)), by omega, by omega, by omega⟩
 ·exact ⟨_, _, ev_neg h (ev_now rfl), by omega, by omega, fun _ => ⟨rfl, rfl⟩⟩
theorem spec_LoopValid_ev (R C : Int) (A D : List (List Bool)) : Ev (fun k => spec_LoopValid.f k R C A D) (decide (Mo.FieldOk R C A D)) := by
 have no : ¬ Mo.FieldOk R C A D → Ev (fun k => spec_LoopValid.j0 k true R C A D) (decide (Mo.FieldOk R C A D)) := by
  intro h
  refine Ev.step (fun _ => rfl) ?_
  simp only [spec_LoopValid.j0]
  exact ev_pos trivial (ev_now (by simp [h]))
 unfold spec_LoopValid.f
 refine ev_bindc (spec_l1In_eq _ _ _) ?_
 by_cases h1 : 1 ≤ R ∧ R ≤ 4
 ·refine ev_pos (by simpa using h1) (ev_bindc (spec_l1In_eq _ _ _) ?_)
  by_cases h2 : 1 ≤ C ∧ C ≤ 4
  ·refine ev_pos (by simpa using h2) ?_
   rw [w64 (n := R + 1) (by omega) (by omega), w64 (n := C + 1) (by omega) (by omega)]
   by_cases h3 : (A.length : Int) = R + 1
   ·refine ev_pos h3 ?_
    by_cases h4 : (D.length : Int) = C + 1
    ·have hD : ∀ i, i ≤ D.length → Ev (fun k => spec_LoopValid.l1 k (i : Int) R C A D) (decide (Mo.Lens R (D.drop i))) := by
      refine up D.length ?_ ?_
      ·refine Ev.step (fun _ => rfl) ?_
       simp only [spec_LoopValid.l1]
       exact ev_neg (by omega) (ev_now (by simp [Mo.Lens.nil]))
      ·intro i hi ih
       have e1 : rd_L1 D (i : Int) = D[i] := by unfold rd_L1; simp [hi]
       refine Ev.step (fun _ => rfl) ?_
       simp only [spec_LoopValid.l1]
       refine ev_pos (by omega) (ev_pos (by omega) (ev_pos (by omega) ?_))
       rw [e1, w64s (by omega), drop_step D i hi]
       by_cases e : (D[i].length : Int) = R
       ·refine ev_pos e (ev_of_eq ih ?_)
        rw [decide_eq_decide, Mo.Lens.cons]; exact ⟨fun h => ⟨e, h⟩, fun h => h.2⟩
       ·refine ev_neg e (ev_now ?_)
        symm; rw [decide_eq_false_iff_not, Mo.Lens.cons]; exact fun h => e h.1
     have hA : ∀ i, i ≤ A.length → Ev (fun k => spec_LoopValid.l0 k (i : Int) R C A D) (decide (Mo.Lens C (A.drop i) ∧ Mo.Lens R D)) := by
      refine up A.length ?_ ?_
      ·refine Ev.step (fun _ => rfl) ?_
       simp only [spec_LoopValid.l0]
       refine ev_neg (by omega) (ev_of_eq (hD 0 (by omega)) ?_)
       rw [decide_eq_decide]; simp [Mo.Lens.nil]
      ·intro i hi ih
       have e1 : rd_L1 A (i : Int) = A[i] := by unfold rd_L1; simp [hi]
       refine Ev.step (fun _ => rfl) ?_
       simp only [spec_LoopValid.l0]
       refine ev_pos (by omega) (ev_pos (by omega) (ev_pos (by omega) ?_))
       rw [e1, w64s (by omega), drop_step A i hi]
       by_cases e : (A[i].length : Int) = C
       ·refine ev_pos e (ev_of_eq ih ?_)
        rw [decide_eq_decide, Mo.Lens.cons]; exact ⟨fun h => ⟨⟨e, h.1⟩, h.2⟩, fun h => ⟨h.1.2, h.2⟩⟩
       ·refine ev_neg e (ev_now ?_)
        symm; rw [decide_eq_false_iff_not, Mo.Lens.cons]; exact fun h => e h.1.1
     refine Ev.step (fun _ => rfl) ?_
     simp only [spec_LoopValid.j0]
     refine ev_neg (by simp [h4]) (ev_of_eq (hA 0 (by omega)) ?_)
     rw [decide_eq_decide]
     exact ⟨fun h => ⟨h1, h2, h3, h4, by simpa using h.1, h.2⟩, fun h => ⟨by simpa using h.2.2.2.2.1, h.2.2.2.2.2⟩⟩
    ·have e : ((D.length : Int) != C + 1) = true := by simpa using h4
     rw [e]; exact no (fun h => h4 h.2.2.2.1)
   ·exact ev_neg h3 (no (fun h => h3 h.2.2.1))
  ·exact ev_neg (by simpa using h2) (no (fun h => h2 h.2.1))
 ·exact ev_neg (by simpa using h1) (no (fun h => h1 h.1))
theorem impl_LoopValid_ev (R C : Int) (A D : List (List Bool)) : Ev (fun k => impl_LoopValid.f k R C A D) (decide (Mo.FieldOk R C A D)) := by
 have no : ¬ Mo.FieldOk R C A D → Ev (fun k => impl_LoopValid.j0 k true R C A D) (decide (Mo.FieldOk R C A D)) := by
  intro h
  refine Ev.step (fun _ => rfl) ?_
  simp only [impl_LoopValid.j0]
  exact ev_pos trivial (ev_now (by simp [h]))
 unfold impl_LoopValid.f
 by_cases h1 : R < 1
 ·exact ev_pos h1 (no (fun h => by have := h.1; omega))
 ·refine ev_neg h1 ?_
  by_cases h1' : R > 4
  ·exact ev_pos h1' (no (fun h => by have := h.1; omega))
  ·refine ev_neg h1' ?_
   by_cases h2 : C < 1
   ·exact ev_pos h2 (no (fun h => by have := h.2.1; omega))
   ·refine ev_neg h2 ?_
    by_cases h2' : C > 4
    ·exact ev_pos h2' (no (fun h => by have := h.2.1; omega))
    ·refine ev_neg h2' ?_
     rw [w64 (n := R + 1) (by omega) (by omega), w64 (n := C + 1) (by omega) (by omega)]
     by_cases h3 : (A.length : Int) = R + 1
     ·refine ev_pos h3 ?_
      by_cases h4 : (D.length : Int) = C + 1
      ·have hD : ∀ i, i ≤ D.length → Ev (fun k => impl_LoopValid.l1 k D (D.length : Int) (i : Int) R C A D) (decide (Mo.Lens R (D.drop i))) := by
        refine up D.length ?_ ?_
        ·refine Ev.step (fun _ => rfl) ?_
         simp only [impl_LoopValid.l1]
         exact ev_neg (by omega) (ev_now (by simp [Mo.Lens.nil]))
        ·intro i hi ih
         have e1 : rd_L1 D (i : Int) = D[i] := by unfold rd_L1; simp [hi]
         refine Ev.step (fun _ => rfl) ?_
         simp only [impl_LoopValid.l1]
         refine ev_pos (by omega) (ev_pos (by omega) (ev_pos (by omega) ?_))
         rw [e1, w64s (by omega), drop_step D i hi]
         by_cases e : (D[i].length : Int) = R
         ·refine ev_pos e (ev_of_eq ih ?_)
          rw [decide_eq_decide, Mo.Lens.cons]; exact ⟨fun h => ⟨e, h⟩, fun h => h.2⟩
         ·refine ev_neg e (ev_now ?_)
          symm; rw [decide_eq_false_iff_not, Mo.Lens.cons]; exact fun h => e h.1
       have hA : ∀ i, i ≤ A.length → Ev (fun k => impl_LoopValid.l0 k A (A.length : Int) (i : Int) R C A D) (decide (Mo.Lens C (A.drop i) ∧ Mo.Lens R D)) := by
        refine up A.length ?_ ?_
        ·refine Ev.step (fun _ => rfl) ?_
         simp only [impl_LoopValid.l0]
         refine ev_neg (by omega) (ev_of_eq (hD 0 (by omega)) ?_)
         rw [decide_eq_decide]; simp [Mo.Lens.nil]
        ·intro i hi ih
         have e1 : rd_L1 A (i : Int) = A[i] := by unfold rd_L1; simp [hi]
         refine Ev.step (fun _ => rfl) ?_
         simp only [impl_LoopValid.l0]
         refine ev_pos (by omega) (ev_pos (by omega) (ev_pos (by omega) ?_))
         rw [e1, w64s (by omega), drop_step A i hi]
         by_cases e : (A[i].length : Int) = C
         ·refine ev_pos e (ev_of_eq ih ?_)
          rw [decide_eq_decide, Mo.Lens.cons]; exact ⟨fun h => ⟨⟨e, h.1⟩, h.2⟩, fun h => ⟨h.1.2, h.2⟩⟩
         ·refine ev_neg e (ev_now ?_)
          symm; rw [decide_eq_false_iff_not, Mo.Lens.cons]; exact fun h => e h.1.1
       refine Ev.step (fun _ => rfl) ?_
       simp only [impl_LoopValid.j0]
       refine ev_neg (by simp [h4]) (ev_of_eq (hA 0 (by omega)) ?_)
       rw [decide_eq_decide]
       exact ⟨fun h => ⟨⟨by omega, by omega⟩, ⟨by omega, by omega⟩, h3, h4, by simpa using h.1, h.2⟩, fun h => ⟨by simpa using h.2.2.2.2.1, h.2.2.2.2.2⟩⟩
      ·have e : ((D.length : Int) != C + 1) = true := by simpa using h4
       rw [e]; exact no (fun h => h4 h.2.2.2.1)
     ·exact ev_neg h3 (no (fun h => h3 h.2.2.1))
def toE (p : Int × Int) : S82 := ⟨p.1, p.2⟩
theorem impl_edgesOf_ev (R C : Nat) (A D : List (List Bool)) (h : Mo.Fld R C A D) : Ev (fun k => impl_edgesOf.f k (R : Int) (C : Int) A D) ((Mo.edges ((C : Int) + 1) A D).map toE) := by
 have hR := h.hR; have hC := h.hC; have lA := h.lA; have lD := h.lD
 have hw : wrap64 ((C : Int) + 1) = (C : Int) + 1 := w64 (by omega) (by omega)
 have bnd : ∀ (i c : Nat), i ≤ 4 → c ≤ 4 → 0 ≤ (i : Int) * ((C : Int) + 1) ∧ (i : Int) * ((C : Int) + 1) ≤ 20 := by
  intro i c hi hc
  have h1 : i * (C + 1) ≤ 4 * 5 := Nat.mul_le_mul hi (by omega)
  have e : (i : Int) * ((C : Int) + 1) = ((i * (C + 1) : Nat) : Int) := by push_cast; rfl
  rw [e]; omega
 have l3 : ∀ (j : Nat), j < C + 1 → ∀ (acc : List S82) (r : List S82), acc.length ≤ 60 →
   (∀ acc' : List S82, acc'.length ≤ acc.length + 4 → acc' = acc ++ (Mo.rowE (fun r => ((r : Int) * ((C : Int) + 1) + j, ((r : Int) + 1) * ((C : Int) + 1) + j)) 0 (D.getD j [])).map toE → Ev (fun k => impl_edgesOf.l2 k acc' ((C : Int) + 1) D (D.length : Int) (wrap64 ((j : Int) + 1))) r) →
   Ev (fun k => impl_edgesOf.l3 k acc ((C : Int) + 1) (j : Int) D (D.length : Int) (j : Int) (D.getD j []) ((D.getD j []).length : Int) 0) r := by
  intro j hj acc r hacc hgo
  have hl := h.rD j hj
  generalize hrow : D.getD j [] = row at hl hgo
  have key : ∀ i, i ≤ row.length → ∀ a2 : List S82, a2.length ≤ acc.length + i → acc ++ (Mo.rowE (fun r => ((r : Int) * ((C : Int) + 1) + j, ((r : Int) + 1) * ((C : Int) + 1) + j)) 0 row).map toE = a2 ++ (Mo.rowE (fun r => ((r : Int) * ((C : Int) + 1) + j, ((r : Int) + 1) * ((C : Int) + 1) + j)) i (row.drop i)).map toE →
    Ev (fun k => impl_edgesOf.l3 k a2 ((C : Int) + 1) (j : Int) D (D.length : Int) (j : Int) row (row.length : Int) (i : Int)) r := by
   refine up row.length ?_ ?_
   ·intro a2 h2 he
    refine Ev.step (fun _ => rfl) ?_
    simp only [impl_edgesOf.l3]
    refine ev_neg (by omega) (hgo a2 (by omega) ?_)
    rw [he]; simp [Mo.rowE]
   ·intro i hi ih a2 h2 he
    refine Ev.step (fun _ => rfl) ?_
    simp only [impl_edgesOf.l3]
    refine ev_pos (by omega) (ev_pos (by omega) (ev_pos (by omega) ?_))
    rw [rdOf_nat false row i hi, w64s (by omega)]
    have b1 := bnd i 0 (by omega) (by omega)
    have b2 := bnd (i + 1) 0 (by omega) (by omega)
    have e2 : ((i + 1 : Nat) : Int) = (i : Int) + 1 := by omega
    rw [e2] at b2
    rw [e2]
    rw [w64 (n := (i : Int) * ((C : Int) + 1)) (by omega) (by omega), w64 (n := ((i : Int) + 1) * ((C : Int) + 1)) (by omega) (by omega), w64 (n := (i : Int) * ((C : Int) + 1) + j) (by omega) (by omega), w64 (n := ((i : Int) + 1) * ((C : Int) + 1) + j) (by omega) (by omega)]
    rw [drop_step row i hi, Mo.rowE] at he
    have e3 : ((i : Int) + 1) = ((i + 1 : Nat) : Int) := by omega
    by_cases hb : row[i] = true
    ·rw [if_pos hb, List.map_cons] at he
     refine ev_pos hb (ev_pos (by omega) ?_)
     have := ih (a2 ++ [toE ((i : Int) * ((C : Int) + 1) + j, ((i : Int) + 1) * ((C : Int) + 1) + j)]) (by simp; omega) (by rw [he, List.append_assoc]; rfl)
     rw [← e3] at this
     exact this
    ·rw [if_neg hb] at he
     refine ev_neg hb ?_
     have := ih a2 (by omega) he
     rw [← e3] at this
     exact this
  exact key 0 (by omega) acc (by omega) (by simp)
 have l2 : ∀ j, j ≤ D.length → ∀ acc : List S82, acc.length ≤ 20 + 4 * j → Ev (fun k => impl_edgesOf.l2 k acc ((C : Int) + 1) D (D.length : Int) (j : Int)) (acc ++ (Mo.rowsE (fun c r => ((r : Int) * ((C : Int) + 1) + c, ((r : Int) + 1) * ((C : Int) + 1) + c)) j (D.drop j)).map toE) := by
  refine up D.length ?_ ?_
  ·intro acc _
   refine Ev.step (fun _ => rfl) ?_
   simp only [impl_edgesOf.l2]
   exact ev_neg (by omega) (ev_now (by simp [Mo.rowsE]))
  ·intro j hj ih acc hacc
   refine Ev.step (fun _ => rfl) ?_
   simp only [impl_edgesOf.l2]
   refine ev_pos (by omega) (ev_pos (by omega) (ev_pos (by omega) ?_))
   have e1 : rd_L1 D (j : Int) = D.getD j [] := rfl
   rw [e1]
   refine l3 j (by omega) acc _ (by omega) (fun acc' h1 h2 => ?_)
   rw [w64s (by omega)]
   refine ev_of_eq (ih acc' (by omega)) ?_
   rw [h2, drop_step D j hj, Mo.rowsE, List.map_append, List.append_assoc, Mo.getD_mem D j hj]
 have l1 : ∀ (j : Nat), j < R + 1 → ∀ (acc : List S82) (r : List S82), acc.length ≤ 60 →
   (∀ acc' : List S82, acc'.length ≤ acc.length + 4 → acc' = acc ++ (Mo.rowE (fun c => ((j : Int) * ((C : Int) + 1) + c, (j : Int) * ((C : Int) + 1) + c + 1)) 0 (A.getD j [])).map toE → Ev (fun k => impl_edgesOf.l0 k acc' ((C : Int) + 1) A (A.length : Int) (wrap64 ((j : Int) + 1)) (R : Int) (C : Int) A D) r) →
   Ev (fun k => impl_edgesOf.l1 k acc ((C : Int) + 1) (j : Int) A (A.length : Int) (j : Int) (A.getD j []) ((A.getD j []).length : Int) 0 (R : Int) (C : Int) A D) r := by
  intro j hj acc r hacc hgo
  have hl := h.rA j hj
  generalize hrow : A.getD j [] = row at hl hgo
  have b1 := bnd j 0 (by omega) (by omega)
  have key : ∀ i, i ≤ row.length → ∀ a2 : List S82, a2.length ≤ acc.length + i → acc ++ (Mo.rowE (fun c => ((j : Int) * ((C : Int) + 1) + c, (j : Int) * ((C : Int) + 1) + c + 1)) 0 row).map toE = a2 ++ (Mo.rowE (fun c => ((j : Int) * ((C : Int) + 1) + c, (j : Int) * ((C : Int) + 1) + c + 1)) i (row.drop i)).map toE →
    Ev (fun k => impl_edgesOf.l1 k a2 ((C : Int) + 1) (j : Int) A (A.length : Int) (j : Int) row (row.length : Int) (i : Int) (R : Int) (C : Int) A D) r := by
   refine up row.length ?_ ?_
   ·intro a2 h2 he
    refine Ev.step (fun _ => rfl) ?_
    simp only [impl_edgesOf.l1]
    refine ev_neg (by omega) (hgo a2 (by omega) ?_)
    rw [he]; simp [Mo.rowE]
   ·intro i hi ih a2 h2 he
    refine Ev.step (fun _ => rfl) ?_
    simp only [impl_edgesOf.l1]
    refine ev_pos (by omega) (ev_pos (by omega) (ev_pos (by omega) ?_))
    rw [rdOf_nat false row i hi, w64s (by omega)]
    rw [w64 (n := (j : Int) * ((C : Int) + 1)) (by omega) (by omega), w64 (n := (j : Int) * ((C : Int) + 1) + i) (by omega) (by omega), w64 (n := (j : Int) * ((C : Int) + 1) + i + 1) (by omega) (by omega)]
    rw [drop_step row i hi, Mo.rowE] at he
    by_cases hb : row[i] = true
    ·rw [if_pos hb, List.map_cons] at he
     refine ev_pos hb (ev_pos (by omega) ?_)
     exact ih (a2 ++ [toE ((j : Int) * ((C : Int) + 1) + i, (j : Int) * ((C : Int) + 1) + i + 1)]) (by simp; omega) (by rw [he, List.append_assoc]; rfl)
    ·rw [if_neg hb] at he
     exact ev_neg hb (ih a2 (by omega) he)
  exact key 0 (by omega) acc (by omega) (by simp)
 have l0 : ∀ j, j ≤ A.length → ∀ acc : List S82, acc.length ≤ 4 * j → Ev (fun k => impl_edgesOf.l0 k acc ((C : Int) + 1) A (A.length : Int) (j : Int) (R : Int) (C : Int) A D) (acc ++ ((Mo.rowsE (fun r c => ((r : Int) * ((C : Int) + 1) + c, (r : Int) * ((C : Int) + 1) + c + 1)) j (A.drop j)).map toE ++ (Mo.rowsE (fun c r => ((r : Int) * ((C : Int) + 1) + c, ((r : Int) + 1) * ((C : Int) + 1) + c)) 0 D).map toE)) := by
  refine up A.length ?_ ?_
  ·intro acc hacc
   refine Ev.step (fun _ => rfl) ?_
   simp only [impl_edgesOf.l0]
   refine ev_neg (by omega) (ev_of_eq (l2 0 (by omega) acc (by omega)) ?_)
   simp [Mo.rowsE]
  ·intro j hj ih acc hacc
   refine Ev.step (fun _ => rfl) ?_
   simp only [impl_edgesOf.l0]
   refine ev_pos (by omega) (ev_pos (by omega) (ev_pos (by omega) ?_))
   have e1 : rd_L1 A (j : Int) = A.getD j [] := rfl
   rw [e1]
   refine l1 j (by omega) acc _ (by omega) (fun acc' h1 h2 => ?_)
   rw [w64s (by omega)]
   refine ev_of_eq (ih acc' (by omega)) ?_
   rw [h2, drop_step A j hj, Mo.rowsE, List.map_append, List.append_assoc, List.append_assoc, Mo.getD_mem A j hj]
 unfold impl_edgesOf.f
 rw [hw]
 refine ev_of_eq (l0 0 (by omega) [] (by simp)) ?_
 simp [Mo.edges]
theorem spec_l17Degree_ev (R C : Nat) (A D : List (List Bool)) (h : Mo.Fld R C A D) (r c : Nat) (hr : r ≤ R) (hc : c ≤ C) : Ev (fun k => spec_l17Degree.f k (R : Int) (C : Int) A D (r : Int) (c : Int)) (Mo.deg A D r c : Int) := by
 have hR := h.hR; have hC := h.hC; have lA := h.lA; have lD := h.lD
 have rA := h.rA r (by omega)
 have rD := h.rD c (by omega)
 have e1 : rd_L1 A (r : Int) = A.getD r [] := rfl
 have e2 : rd_L1 D (c : Int) = D.getD c [] := rfl
 have g1 : rdOf false (A.getD r []) (c : Int) = Mo.ga A r c := rfl
 have g2 : rdOf false (D.getD c []) (r : Int) = Mo.ga D c r := rfl
 have j4 : ∀ (n : Nat) (b : Bool), n ≤ 2 → Ev (fun k => spec_l17Degree.j4 k (r : Int) (c : Int) (n : Int) b (R : Int) (C : Int) A D) (((n + Mo.b2 b + (if r = 0 then 0 else Mo.b2 (Mo.ga D c (r - 1))) : Nat)) : Int) := by
  intro n b hn
  refine Ev.step (fun _ => rfl) ?_
  simp only [spec_l17Degree.j4]
  have w1 : wrap64 ((n : Int) + 1) = ((n + 1 : Nat) : Int) := w64s (by omega)
  have w2 : wrap64 (((n + 1 : Nat) : Int) + 1) = ((n + 2 : Nat) : Int) := w64s (by omega)
  rw [w1, w2, e2]
  by_cases h0 : r = 0
  ·subst h0
   cases b with
   | true => exact ev_pos rfl (ev_neg (by omega) (ev_now (by simp [Mo.b2])))
   | false => exact ev_neg (by simp) (ev_neg (by omega) (ev_now (by simp [Mo.b2])))
  ·have w3 : wrap64 ((r : Int) - 1) = ((r - 1 : Nat) : Int) := by rw [w64 (by omega) (by omega)]; omega
   rw [w3]
   have g3 : rdOf false (D.getD c []) ((r - 1 : Nat) : Int) = Mo.ga D c (r - 1) := rfl
   rw [g3, if_neg h0]
   have hpos : (r : Int) > 0 := by omega
   cases b with
   | true =>
    refine ev_pos rfl (ev_pos hpos (ev_pos (by omega) (ev_pos (by omega) (ev_pos (by omega) (ev_pos (by omega) ?_)))))
    cases hg : Mo.ga D c (r - 1) with
    | true => exact ev_pos rfl (ev_now (by simp [Mo.b2]; omega))
    | false => exact ev_neg (by simp) (ev_now (by simp [Mo.b2]))
   | false =>
    refine ev_neg (by simp) (ev_pos hpos (ev_pos (by omega) (ev_pos (by omega) (ev_pos (by omega) (ev_pos (by omega) ?_)))))
    cases hg : Mo.ga D c (r - 1) with
    | true => exact ev_pos rfl (ev_now (by simp [Mo.b2]))
    | false => exact ev_neg (by simp) (ev_now (by simp [Mo.b2]))
 have j3 : ∀ n : Nat, n ≤ 2 → Ev (fun k => spec_l17Degree.j3 k (r : Int) (c : Int) (n : Int) (R : Int) (C : Int) A D) (((n + Mo.b2 (Mo.ga D c r) + (if r = 0 then 0 else Mo.b2 (Mo.ga D c (r - 1))) : Nat)) : Int) := by
  intro n hn
  refine Ev.step (fun _ => rfl) ?_
  simp only [spec_l17Degree.j3]
  rw [e2, g2]
  by_cases hlt : r < R
  ·exact ev_pos (by omega) (ev_pos (by omega) (ev_pos (by omega) (ev_pos (by omega) (ev_pos (by omega) (j4 n _ hn)))))
  ·refine ev_neg (by omega) (ev_of_eq (j4 n false hn) ?_)
   rw [h.d0 c r (.inr (by omega))]
 have j2 : ∀ (n : Nat) (b : Bool), n ≤ 1 → Ev (fun k => spec_l17Degree.j2 k (r : Int) (c : Int) (n : Int) b (R : Int) (C : Int) A D) (((n + Mo.b2 b + Mo.b2 (Mo.ga D c r) + (if r = 0 then 0 else Mo.b2 (Mo.ga D c (r - 1))) : Nat)) : Int) := by
  intro n b hn
  refine Ev.step (fun _ => rfl) ?_
  simp only [spec_l17Degree.j2]
  rw [w64s (by omega)]
  cases b with
  | true => exact ev_pos rfl (ev_of_eq (j3 (n + 1) (by omega)) (by simp [Mo.b2]))
  | false => exact ev_neg (by simp) (ev_of_eq (j3 n (by omega)) (by simp [Mo.b2]))
 have j1 : ∀ n : Nat, n ≤ 1 → Ev (fun k => spec_l17Degree.j1 k (r : Int) (c : Int) (n : Int) (R : Int) (C : Int) A D) (((n + (if c = 0 then 0 else Mo.b2 (Mo.ga A r (c - 1))) + Mo.b2 (Mo.ga D c r) + (if r = 0 then 0 else Mo.b2 (Mo.ga D c (r - 1))) : Nat)) : Int) := by
  intro n hn
  refine Ev.step (fun _ => rfl) ?_
  simp only [spec_l17Degree.j1]
  rw [e1]
  by_cases h0 : c = 0
  ·refine ev_neg (by omega) (ev_of_eq (j2 n false hn) ?_)
   simp [h0, Mo.b2]
  ·have w3 : wrap64 ((c : Int) - 1) = ((c - 1 : Nat) : Int) := by rw [w64 (by omega) (by omega)]; omega
   rw [w3]
   have g3 : rdOf false (A.getD r []) ((c - 1 : Nat) : Int) = Mo.ga A r (c - 1) := rfl
   rw [g3, if_neg h0]
   exact ev_pos (by omega) (ev_pos (by omega) (ev_pos (by omega) (ev_pos (by omega) (ev_pos (by omega) (j2 n _ hn)))))
 have j0 : ∀ (b : Bool), Ev (fun k => spec_l17Degree.j0 k (r : Int) (c : Int) 0 b (R : Int) (C : Int) A D) (((Mo.b2 b + (if c = 0 then 0 else Mo.b2 (Mo.ga A r (c - 1))) + Mo.b2 (Mo.ga D c r) + (if r = 0 then 0 else Mo.b2 (Mo.ga D c (r - 1))) : Nat)) : Int) := by
  intro b
  refine Ev.step (fun _ => rfl) ?_
  simp only [spec_l17Degree.j0]
  have w1 : wrap64 ((0 : Int) + 1) = ((1 : Nat) : Int) := w64 (by omega) (by omega)
  rw [w1]
  cases b with
  | true => exact ev_pos rfl (ev_of_eq (j1 1 (by omega)) (by simp [Mo.b2]))
  | false => exact ev_neg (by simp) (ev_of_eq (j1 0 (by omega)) (by simp [Mo.b2]))
 unfold spec_l17Degree.f
 rw [e1, g1]
 by_cases hlt : c < C
 ·exact ev_pos (by omega) (ev_pos (by omega) (ev_pos (by omega) (ev_pos (by omega) (ev_pos (by omega) (j0 _)))))
 ·refine ev_neg (by omega) (ev_of_eq (j0 false) ?_)
  unfold Mo.deg
  rw [h.a0 r c (.inr (by omega))]
theorem spec_LoopLength_ev (R C : Int) (A D : List (List Bool)) : Ev (fun k => spec_LoopLength.f k R C A D) (if Mo.FieldOk R C A D then (Mo.nEdges R.toNat C.toNat A D : Int) else -1) := by
 unfold spec_LoopLength.f
 refine Ev.bind (spec_LoopValid_ev R C A D) ?_
 by_cases h : Mo.FieldOk R C A D
 ·obtain ⟨R', C', rfl, rfl, hf⟩ := h.fld
  have hR := hf.hR; have hC := hf.hC
  refine ev_pos (by simpa using h) ?_
  rw [if_pos h]
  have l1 : ∀ (r : Nat), r ≤ R' → ∀ c, c ≤ C' + 1 → ∀ (n : Nat) (q : Int), n ≤ 80 + 4 * c →
    (∀ n', n' ≤ n + 4 * (C' + 1 - c) → n' + Mo.sm c (fun c => Mo.deg A D r c) = n + Mo.sm (C' + 1) (fun c => Mo.deg A D r c) → Ev (fun k => spec_LoopLength.l0 k (n' : Int) (wrap64 ((r : Int) + 1)) (R' : Int) (C' : Int) A D) q) →
    Ev (fun k => spec_LoopLength.l1 k (n : Int) (r : Int) (c : Int) (R' : Int) (C' : Int) A D) q := by
   intro r hr
   refine up (C' + 1) ?_ ?_
   ·intro n q hn hgo
    refine Ev.step (fun _ => rfl) ?_
    simp only [spec_LoopLength.l1]
    exact ev_neg (by omega) (hgo n (by omega) rfl)
   ·intro c hc ih n q hn hgo
    refine Ev.step (fun _ => rfl) ?_
    simp only [spec_LoopLength.l1]
    have hd := Mo.deg_le A D r c
    refine ev_pos (by omega) (Ev.bind (spec_l17Degree_ev R' C' A D hf r c hr (by omega)) ?_)
    have w1 : wrap64 ((n : Int) + (Mo.deg A D r c : Int)) = ((n + Mo.deg A D r c : Nat) : Int) := by rw [w64 (by omega) (by omega)]; omega
    rw [w1, w64s (by omega)]
    refine ih _ q (by omega) (fun n' h1 h2 => hgo n' (by omega) ?_)
    rw [Mo.sm] at h2; omega
  have l0 : ∀ r, r ≤ R' + 1 → ∀ n : Nat, n ≤ 20 * r → n = Mo.sm r (fun r => Mo.sm (C' + 1) (fun c => Mo.deg A D r c)) → Ev (fun k => spec_LoopLength.l0 k (n : Int) (r : Int) (R' : Int) (C' : Int) A D) (Mo.nEdges R' C' A D : Int) := by
   refine up (R' + 1) ?_ ?_
   ·intro n _ hn
    refine Ev.step (fun _ => rfl) ?_
    simp only [spec_LoopLength.l0]
    refine ev_neg (by omega) (ev_now ?_)
    have := hf.na_le
    rw [hf.hands] at hn
    rw [hn, Int.tdiv_eq_ediv_of_nonneg (by omega), w64 (by omega) (by omega)]; omega
   ·intro r hr ih n h1 h2
    refine Ev.step (fun _ => rfl) ?_
    simp only [spec_LoopLength.l0]
    refine ev_pos (by omega) (l1 r (by omega) 0 (by omega) n _ (by omega) (fun n' h3 h4 => ?_))
    rw [w64s (by omega)]
    have hs : Mo.sm (C' + 1) (fun c => Mo.deg A D r c) ≤ (C' + 1) * 4 := by
     have := Mo.sm_le (f := fun c => Mo.deg A D r c) (g := fun _ => 4) (C' + 1) (fun c _ => Mo.deg_le A D r c)
     rwa [Mo.sm_const] at this
    have hs2 : Mo.sm (r + 1) (fun r => Mo.sm (C' + 1) (fun c => Mo.deg A D r c)) ≤ 2 * 40 := by
     have e : ∀ m, r + 1 ≤ m → Mo.sm (r + 1) (fun r => Mo.sm (C' + 1) (fun c => Mo.deg A D r c)) ≤ Mo.sm m (fun r => Mo.sm (C' + 1) (fun c => Mo.deg A D r c)) := by
      intro m hm
      induction m with
      | zero => omega
      | succ m ihm =>
       by_cases e : r + 1 = m + 1
       ·rw [e]; exact Nat.le_refl _
       ·have := ihm (by omega); simp only [Mo.sm] at this ⊢; omega
     have := e (R' + 1) (by omega)
     rw [hf.hands] at this
     have := hf.na_le
     omega
    have h5 : Mo.sm (r + 1) (fun r => Mo.sm (C' + 1) (fun c => Mo.deg A D r c)) = Mo.sm r (fun r => Mo.sm (C' + 1) (fun c => Mo.deg A D r c)) + Mo.sm (C' + 1) (fun c => Mo.deg A D r c) := rfl
    have h4' : n' = n + Mo.sm (C' + 1) (fun c => Mo.deg A D r c) := h4
    have h6 : n' = Mo.sm (r + 1) (fun r => Mo.sm (C' + 1) (fun c => Mo.deg A D r c)) := by rw [h5, h4', h2]
    exact ih n' (by omega) h6
  exact l0 0 (by omega) 0 (by omega) rfl
 ·exact ev_neg (by simpa using h) (ev_now (by rw [if_neg h]))
theorem spec_LoopAround_at (l : List Bool) (c : Bool) (i : Int) (h : c = true → 0 ≤ i ∧ i < l.length) : spec_LoopAround.at_ l c i = some (c && l.getD i.toNat false) := by
 unfold spec_LoopAround.at_
 cases c with
 | false => simp
 | true =>
  obtain ⟨h1, h2⟩ := h rfl
  obtain ⟨n, rfl⟩ := Int.eq_ofNat_of_zero_le h1
  have h3 : n < l.length := by omega
  rw [if_pos rfl, if_pos h1, if_pos h2, rdOf_nat false l n h3]
  simp [h3]
theorem spec_LoopAround_l1 (R C : Nat) (hR : R ≤ 4) (hC : C ≤ 4) (l : List Bool) (hl : l.length = R * C) (r : Nat) (hr : r ≤ R) (xs : List (List Bool)) (hx : xs.length ≤ 5) (res : Int × Int × (List (List Bool)) × (List (List Bool)))
  (h : Ev (fun k => spec_LoopAround.l0 k (R : Int) (C : Int) l ((r + 1 : Nat) : Int) (xs ++ [(List.range C).map (Mo.arA R C l r)])) res) :
  ∀ c, c ≤ C → Ev (fun k => spec_LoopAround.l1 k (R : Int) (C : Int) l (r : Int) ((List.range c).map (Mo.arA R C l r)) (c : Int) xs) res := by
 refine up C ?_ ?_
 ·refine Ev.step (fun _ => rfl) ?_
  simp only [spec_LoopAround.l1]
  rw [w64s (n := r) (by omega)]
  exact ev_neg (by omega) (ev_pos (by omega) h)
 ·intro c hc ih
  have e2 := Mo.ix r C c (by omega) hC (by omega)
  have e1 : 0 < r → wrap64 (wrap64 (wrap64 ((r : Int) - 1) * (C : Int)) + (c : Int)) = (((r - 1) * C + c : Nat) : Int) := by
   intro h0
   have h1 : wrap64 ((r : Int) - 1) = ((r - 1 : Nat) : Int) := by rw [w64 (by omega) (by omega)]; omega
   rw [h1]; exact Mo.ix (r - 1) C c (by omega) hC (by omega)
  refine Ev.step (fun _ => rfl) ?_
  simp only [spec_LoopAround.l1]
  rw [w64s (by omega), e2]
  refine ev_pos (by omega) (ev_bindc (spec_LoopAround_at l _ _ ?_) (ev_bindc (spec_LoopAround_at l _ _ ?_) (ev_pos (by simp; omega) ?_)))
  ·intro h0
   have h0 : 0 < r := by simpa using h0
   rw [e1 h0]
   have := Mo.ix_lt (r := r - 1) (R := R) (C := C) (c := c) (by omega) hc
   omega
  ·intro h0
   have h0 : r < R := by simpa using h0
   have := Mo.ix_lt (r := r) (R := R) (C := C) (c := c) (by omega) hc
   omega
  ·have e : (List.range c).map (Mo.arA R C l r) ++ [(decide ((0 : Int) < (r : Int)) && l.getD (wrap64 (wrap64 (wrap64 ((r : Int) - 1) * (C : Int)) + (c : Int))).toNat false) != (decide ((r : Int) < (R : Int)) && l.getD ((r * C + c : Nat) : Int).toNat false)] = (List.range (c + 1)).map (Mo.arA R C l r) := by
    rw [List.range_succ, List.map_append]
    congr 1
    simp only [List.map_cons, List.map_nil, List.cons.injEq, and_true]
    unfold Mo.arA
    rw [Int.toNat_natCast]
    have d2 : decide ((r : Int) < (R : Int)) = decide (r < R) := decide_eq_decide.2 (by omega)
    rw [d2]
    by_cases h0 : 0 < r
    ·rw [e1 h0, Int.toNat_natCast]
     have d1 : decide ((0 : Int) < (r : Int)) = decide (0 < r) := decide_eq_decide.2 (by omega)
     rw [d1]
    ·have d1 : decide ((0 : Int) < (r : Int)) = false := decide_eq_false (by omega)
     have d1' : decide (0 < r) = false := decide_eq_false (by omega)
     rw [d1, d1']; rfl
   rw [e]; exact ih
theorem spec_LoopAround_l3 (R C : Nat) (hR : R ≤ 4) (hC : C ≤ 4) (l : List Bool) (hl : l.length = R * C) (c : Nat) (hc : c ≤ C) (ys xs : List (List Bool)) (hx : xs.length ≤ 5) (res : Int × Int × (List (List Bool)) × (List (List Bool)))
  (h : Ev (fun k => spec_LoopAround.l2 k (R : Int) (C : Int) l ((c + 1 : Nat) : Int) ys (xs ++ [(List.range R).map (Mo.arD R C l c)])) res) :
  ∀ r, r ≤ R → Ev (fun k => spec_LoopAround.l3 k (R : Int) (C : Int) l (c : Int) ((List.range r).map (Mo.arD R C l c)) (r : Int) ys xs) res := by
 refine up R ?_ ?_
 ·refine Ev.step (fun _ => rfl) ?_
  simp only [spec_LoopAround.l3]
  rw [w64s (n := c) (by omega)]
  exact ev_neg (by omega) (ev_pos (by omega) h)
 ·intro r hr ih
  have e2 := Mo.ix r C c (by omega) hC (by omega)
  have hb : r * C + C ≤ R * C := by
   have := Nat.mul_le_mul_right C (show r + 1 ≤ R from hr)
   rwa [Nat.succ_mul] at this
  have hb16 : R * C ≤ 4 * 4 := Nat.mul_le_mul hR hC
  have e1 : 0 < c → wrap64 (((r * C + c : Nat) : Int) - 1) = ((r * C + c - 1 : Nat) : Int) := by
   intro h0
   rw [w64 (by omega) (by omega)]; omega
  refine Ev.step (fun _ => rfl) ?_
  simp only [spec_LoopAround.l3]
  rw [w64s (by omega), e2]
  refine ev_pos (by omega) (ev_bindc (spec_LoopAround_at l _ _ ?_) (ev_bindc (spec_LoopAround_at l _ _ ?_) (ev_pos (by simp; omega) ?_)))
  ·intro h0
   have h0 : 0 < c := by simpa using h0
   rw [e1 h0]
   omega
  ·intro h0
   have h0 : c < C := by simpa using h0
   omega
  ·have e : (List.range r).map (Mo.arD R C l c) ++ [(decide ((0 : Int) < (c : Int)) && l.getD (wrap64 (((r * C + c : Nat) : Int) - 1)).toNat false) != (decide ((c : Int) < (C : Int)) && l.getD ((r * C + c : Nat) : Int).toNat false)] = (List.range (r + 1)).map (Mo.arD R C l c) := by
    rw [List.range_succ, List.map_append]
    congr 1
    simp only [List.map_cons, List.map_nil, List.cons.injEq, and_true]
    unfold Mo.arD
    rw [Int.toNat_natCast]
    have d2 : decide ((c : Int) < (C : Int)) = decide (c < C) := decide_eq_decide.2 (by omega)
    rw [d2]
    by_cases h0 : 0 < c
    ·rw [e1 h0, Int.toNat_natCast]
     have d1 : decide ((0 : Int) < (c : Int)) = decide (0 < c) := decide_eq_decide.2 (by omega)
     rw [d1]
    ·have d1 : decide ((0 : Int) < (c : Int)) = false := decide_eq_false (by omega)
     have d1' : decide (0 < c) = false := decide_eq_false (by omega)
     rw [d1, d1']; rfl
   rw [e]; exact ih
theorem spec_LoopAround_ev (R C : Int) (l : List Bool) : Ev (fun k => spec_LoopAround.f k R C l) (Mo.around R C l) := by
 unfold spec_LoopAround.f
 by_cases h : Mo.Around R C l
 ·have h' := h
  obtain ⟨h1, h2, h3⟩ := h
  unfold Mo.around
  rw [if_pos h']
  obtain ⟨R, rfl⟩ := Int.eq_ofNat_of_zero_le (show 0 ≤ R by omega)
  obtain ⟨C, rfl⟩ := Int.eq_ofNat_of_zero_le (show 0 ≤ C by omega)
  have hw : wrap64 ((R : Int) * (C : Int)) = ((R * C : Nat) : Int) := Mo.ix0 R C (by omega) (by omega)
  have hl : l.length = R * C := by
   have : (R : Int) * (C : Int) = ((R * C : Nat) : Int) := by simp
   omega
  refine ev_bindc (spec_l1In_eq _ _ _) (ev_pos (by simpa using h1) (ev_bindc (spec_l1In_eq _ _ _) (ev_pos (by simpa using h2) ?_)))
  simp only [spec_LoopAround.j]
  rw [hw, hl]
  refine ev_neg (by simp) ?_
  have downs : ∀ ys, ∀ c, c ≤ C + 1 → Ev (fun k => spec_LoopAround.l2 k (R : Int) (C : Int) l (c : Int) ys ((List.range c).map fun i => (List.range R).map (Mo.arD R C l i))) ((R : Int), (C : Int), ys, Mo.mk (C + 1) R (Mo.arD R C l)) := by
   intro ys
   refine up (C + 1) ?_ ?_
   ·refine Ev.step (fun _ => rfl) ?_
    simp only [spec_LoopAround.l2]
    exact ev_neg (by omega) (ev_now rfl)
   ·intro c hc ih
    refine Ev.step (fun _ => rfl) ?_
    simp only [spec_LoopAround.l2]
    refine ev_pos (by omega) ?_
    refine spec_LoopAround_l3 R C (by omega) (by omega) l hl c (by omega) ys _ (by simp; omega) _ ?_ 0 (by omega)
    have e : ((List.range c).map fun i => (List.range R).map (Mo.arD R C l i)) ++ [(List.range R).map (Mo.arD R C l c)] = (List.range (c + 1)).map fun i => (List.range R).map (Mo.arD R C l i) := by
     rw [List.range_succ, List.map_append]; rfl
    rw [e]; exact ih
  have rows : ∀ r, r ≤ R + 1 → Ev (fun k => spec_LoopAround.l0 k (R : Int) (C : Int) l (r : Int) ((List.range r).map fun i => (List.range C).map (Mo.arA R C l i))) ((R : Int), (C : Int), Mo.mk (R + 1) C (Mo.arA R C l), Mo.mk (C + 1) R (Mo.arD R C l)) := by
   refine up (R + 1) ?_ ?_
   ·refine Ev.step (fun _ => rfl) ?_
    simp only [spec_LoopAround.l0]
    exact ev_neg (by omega) (downs _ 0 (by omega))
   ·intro r hr ih
    refine Ev.step (fun _ => rfl) ?_
    simp only [spec_LoopAround.l0]
    refine ev_pos (by omega) ?_
    refine spec_LoopAround_l1 R C (by omega) (by omega) l hl r (by omega) _ (by simp; omega) _ ?_ 0 (by omega)
    have e : ((List.range r).map fun i => (List.range C).map (Mo.arA R C l i)) ++ [(List.range C).map (Mo.arA R C l r)] = (List.range (r + 1)).map fun i => (List.range C).map (Mo.arA R C l i) := by
     rw [List.range_succ, List.map_append]; rfl
    rw [e]; exact ih
  exact rows 0 (by omega)
 ·have no : Ev (fun k => spec_LoopAround.j k R C l true) (Mo.around R C l) := by
   unfold Mo.around
   rw [if_neg h]
   simp only [spec_LoopAround.j]
   exact ev_pos trivial (ev_now rfl)
  refine ev_bindc (spec_l1In_eq _ _ _) ?_
  by_cases h1 : 1 ≤ R ∧ R ≤ 4
  ·refine ev_pos (by simpa using h1) (ev_bindc (spec_l1In_eq _ _ _) ?_)
   by_cases h2 : 1 ≤ C ∧ C ≤ 4
   ·refine ev_pos (by simpa using h2) ?_
    have e : ((l.length : Int) != wrap64 (R * C)) = true := by
     have hw : wrap64 (R * C) = R * C := by
      obtain ⟨R, rfl⟩ := Int.eq_ofNat_of_zero_le (show 0 ≤ R by omega)
      obtain ⟨C, rfl⟩ := Int.eq_ofNat_of_zero_le (show 0 ≤ C by omega)
      have := Mo.ix0 R C (by omega) (by omega)
      simpa using this
     rw [hw, bne_iff_ne]
     exact fun h3 => h ⟨h1, h2, h3⟩
    rw [e]; exact no
   ·exact ev_neg (by simpa using h2) no
  ·exact ev_neg (by simpa using h1) no
theorem spec_l20Inside_ev (b : List Int) (p : Int) (hb : Bytes b) (h0 : 0 ≤ p) (hp : p ≤ 900000000) :
  ∃ (R C : Nat) (l : List Bool) (p' : Int), Ev (fun k => spec_l20Inside.f k b p) ((R : Int), (C : Int), l, p') ∧ p ≤ p' ∧ p' ≤ p + 20 ∧ (1 ≤ R ∧ R ≤ 4) ∧ (1 ≤ C ∧ C ≤ 4) ∧ l.length = R * C := by
 unfold spec_l20Inside.f
 obtain ⟨r, hr, r0, r1, _⟩ := spec_l20Rd_pick_ev b p 4 hb (by omega) (by omega) (by omega)
 have r1 := r1 (by omega)
 obtain ⟨c, hc, c0, c1, _⟩ := spec_l20Rd_pick_ev b (p + 1) 4 hb (by omega) (by omega) (by omega)
 have c1 := c1 (by omega)
 obtain ⟨R, hR⟩ : ∃ R : Nat, wrap64 (1 + r) = (R : Int) := ⟨(1 + r).toNat, by rw [w64 (by omega) (by omega)]; omega⟩
 obtain ⟨C, hC⟩ : ∃ C : Nat, wrap64 (1 + c) = (C : Int) := ⟨(1 + c).toNat, by rw [w64 (by omega) (by omega)]; omega⟩
 have bR : 1 ≤ R ∧ R ≤ 4 := by rw [w64 (by omega) (by omega)] at hR; omega
 have bC : 1 ≤ C ∧ C ≤ 4 := by rw [w64 (by omega) (by omega)] at hC; omega
 have hm : wrap64 ((R : Int) * (C : Int)) = ((R * C : Nat) : Int) := Mo.ix0 R C (by omega) (by omega)
 have m1 : R * C ≤ 4 * 4 := Nat.mul_le_mul bR.2 bC.2
 have m0 : 1 * 1 ≤ R * C := Nat.mul_le_mul bR.1 bC.1
 obtain ⟨a, ha, a0, a1, _⟩ := spec_l20Rd_pick_ev b (p + 1 + 1) ((R * C : Nat) : Int) hb (by omega) (by omega) (by omega)
 have a1 := a1 (by omega)
 obtain ⟨n, hn, n0, n1, _⟩ := spec_l20Rd_pick_ev b (p + 1 + 1 + 1) 9 hb (by omega) (by omega) (by omega)
 have n1 := n1 (by omega)
 have key : ∀ (m : Nat) (l : List Bool) (a q : Int), m ≤ 9 → l.length = R * C → 0 ≤ a → a < ((R * C : Nat) : Int) → p ≤ q → q + m ≤ p + 20 →
   ∃ (l' : List Bool) (p' : Int), Ev (fun k => spec_l20Inside.l0 k (R : Int) (C : Int) l a (m : Int) b q) ((R : Int), (C : Int), l', p') ∧ p ≤ p' ∧ p' ≤ p + 20 ∧ l'.length = R * C := by
  intro m
  induction m with
  | zero =>
   intro l a q _ hl _ _ hq1 hq2
   refine ⟨l, q, Ev.step (fun _ => rfl) ?_, by omega, by omega, hl⟩
   simp only [spec_l20Inside.l0]
   exact ev_neg (by omega) (ev_now rfl)
  | succ m ih =>
   intro l a q hm9 hl ha0 ha1 hq1 hq2
   obtain ⟨d, hd, d0, d1, _⟩ := spec_l20Rd_pick_ev b q 4 hb (by omega) (by omega) (by omega)
   have d1 := d1 (by omega)
   have hk : wrap64 (((m + 1 : Nat) : Int) - 1) = (m : Int) := by rw [w64 (by omega) (by omega)]; omega
   have hs : ∃ t : Int, rd [1, (-1), (C : Int), wrap64 (-(C : Int))] d = t ∧ -4 ≤ t ∧ t ≤ 4 := by
    refine ⟨_, rfl, ?_⟩
    rw [w64 (by omega) (by omega)]
    have : d = 0 ∨ d = 1 ∨ d = 2 ∨ d = 3 := by omega
    rcases this with rfl | rfl | rfl | rfl
    ·show -4 ≤ (1 : Int) ∧ (1 : Int) ≤ 4; omega
    ·show -4 ≤ (-1 : Int) ∧ (-1 : Int) ≤ 4; omega
    ·show -4 ≤ (C : Int) ∧ (C : Int) ≤ 4; omega
    ·show -4 ≤ -(C : Int) ∧ -(C : Int) ≤ 4; omega
   obtain ⟨t, ht, t0, t1⟩ := hs
   by_cases g1 : 0 ≤ a + t
   ·by_cases g2 : a + t < ((R * C : Nat) : Int)
    ·obtain ⟨l', p', he, e1, e2, e3⟩ := ih (l.set (a + t).toNat true) (a + t) (q + 1) (by omega) (by simpa using hl) g1 g2 (by omega) (by omega)
     refine ⟨l', p', Ev.step (fun _ => rfl) ?_, e1, e2, e3⟩
     simp only [spec_l20Inside.l0]
     refine ev_pos (by omega) (ev_some (Ev.bind hd (ev_pos d0 (ev_pos (by simpa using d1) ?_))))
     rw [ht, hk, hm, w64 (n := a + t) (by omega) (by omega)]
     exact ev_pos g1 (ev_pos g2 (ev_pos g1 (ev_pos (by omega) he)))
    ·obtain ⟨l', p', he, e1, e2, e3⟩ := ih l a (q + 1) (by omega) hl ha0 ha1 (by omega) (by omega)
     refine ⟨l', p', Ev.step (fun _ => rfl) ?_, e1, e2, e3⟩
     simp only [spec_l20Inside.l0]
     refine ev_pos (by omega) (ev_some (Ev.bind hd (ev_pos d0 (ev_pos (by simpa using d1) ?_))))
     rw [ht, hk, hm, w64 (n := a + t) (by omega) (by omega)]
     exact ev_pos g1 (ev_neg g2 he)
   ·obtain ⟨l', p', he, e1, e2, e3⟩ := ih l a (q + 1) (by omega) hl ha0 ha1 (by omega) (by omega)
    refine ⟨l', p', Ev.step (fun _ => rfl) ?_, e1, e2, e3⟩
    simp only [spec_l20Inside.l0]
    refine ev_pos (by omega) (ev_some (Ev.bind hd (ev_pos d0 (ev_pos (by simpa using d1) ?_))))
    rw [ht, hk, hm, w64 (n := a + t) (by omega) (by omega)]
    exact ev_neg g1 he
 obtain ⟨N, rfl⟩ := Int.eq_ofNat_of_zero_le n0
 obtain ⟨l', p', he, e1, e2, e3⟩ := key N ((List.replicate (R * C) false).set a.toNat true) a (p + 1 + 1 + 1 + 1) (by omega) (by simp) a0 a1 (by omega) (by omega)
 refine ⟨R, C, l', p', Ev.bind hr (Ev.bind hc ?_), e1, e2, bR, bC, e3⟩
 rw [hR, hC, hm, Int.toNat_natCast]
 exact ev_pos (by omega) (ev_pos (by omega) (ev_some (Ev.bind ha (ev_pos a0 (ev_pos (by simp; omega) (Ev.bind hn he))))))
def Drawn (A D : List (List Bool)) : Prop := (A.length ≤ 6 ∧ D.length ≤ 6) ∧ (∀ x ∈ A, x.length ≤ 5) ∧ (∀ x ∈ D, x.length ≤ 5)
theorem spec_l20Loop_ev (b : List Int) (p n : Int) (hb : Bytes b) (h0 : 0 ≤ p) (hp : p ≤ 800000000) (hn : n ≤ 1000000000) :
  ∃ (R C : Int) (A D : List (List Bool)) (p' : Int), Ev (fun k => spec_l20Loop.f k b p n) (R, C, A, D, p') ∧ p ≤ p' ∧ p' ≤ p + 40 ∧ Drawn A D := by
 unfold spec_l20Loop.f
 obtain ⟨R, C, l, p1, hi, hp1, hp2, bR, bC, hl⟩ := spec_l20Inside_ev b p hb h0 (by omega)
 have har : Mo.around (R : Int) (C : Int) l = ((R : Int), (C : Int), Mo.mk (R + 1) C (Mo.arA R C l), Mo.mk (C + 1) R (Mo.arD R C l)) := by
  unfold Mo.around
  rw [if_pos ⟨by omega, by omega, by rw [hl]; simp⟩, Int.toNat_natCast, Int.toNat_natCast]
 have hev := ev_of_eq (spec_LoopAround_ev (R : Int) (C : Int) l) har
 have sA : Mo.Small (Mo.mk (R + 1) C (Mo.arA R C l)) := Mo.Small.mk_ _ (by omega) (by omega)
 have sD : Mo.Small (Mo.mk (C + 1) R (Mo.arD R C l)) := Mo.Small.mk_ _ (by omega) (by omega)
 have lA : (Mo.mk (R + 1) C (Mo.arA R C l)).length = R + 1 := Mo.mk_length _ _ _
 have rA : ∀ x ∈ Mo.mk (R + 1) C (Mo.arA R C l), x.length = C := Mo.mk_rows _ _ _
 generalize hA : Mo.mk (R + 1) C (Mo.arA R C l) = A at hev sA lA rA
 generalize hD : Mo.mk (C + 1) R (Mo.arD R C l) = D at hev sD
 have j0 : ∀ (A : List (List Bool)) (q : Int), Mo.Small A → p1 ≤ q → q ≤ p1 + 10 →
   ∃ (R' C' : Int) (A' D' : List (List Bool)) (p' : Int), Ev (fun k => spec_l20Loop.j0 k n b q (R : Int) (C : Int) A D) (R', C', A', D', p') ∧ p ≤ p' ∧ p' ≤ p + 40 ∧ Drawn A' D' := by
  intro A q hA hq1 hq2
  have w1 : Drawn A D := ⟨⟨by have := hA.1.2; omega, by have := sD.1.2; omega⟩, fun x hx => by have := hA.2 x hx; omega, fun x hx => by have := sD.2 x hx; omega⟩
  obtain ⟨o, p2, ho, ho1, ho2, _⟩ := spec_l20Rd_odd_ev b q n hb (by omega) (by omega) hn
  cases o with
  | false =>
   refine ⟨R, C, A, D, p2, Ev.step (fun _ => rfl) ?_, by omega, by omega, w1⟩
   simp only [spec_l20Loop.j0]
   exact Ev.bind ho (ev_neg (by simp) (ev_now rfl))
  | true =>
   obtain ⟨c, hc, c0, c1, _⟩ := spec_l20Rd_pick_ev b p2 4 hb (by omega) (by omega) (by omega)
   have c1 := c1 (by omega)
   by_cases e0 : c = 0
   ·obtain ⟨d, hd, d0, d1, _⟩ := spec_l20Rd_pick_ev b (p2 + 1) 2 hb (by omega) (by omega) (by omega)
    have d1 := d1 (by omega)
    refine ⟨rd [0, 5] d, C, A, D, p2 + 1 + 1, Ev.step (fun _ => rfl) ?_, by omega, by omega, w1⟩
    simp only [spec_l20Loop.j0]
    exact Ev.bind ho (ev_pos rfl (Ev.bind hc (ev_pos e0 (ev_some (Ev.bind hd (ev_pos d0 (ev_pos (by simpa using d1) (ev_now rfl))))))))
   ·by_cases e1 : c = 1
    ·refine ⟨R, C, A.drop 1, D, p2 + 1, Ev.step (fun _ => rfl) ?_, by omega, by omega, ⟨⟨by have := w1.1.1; simp; omega, w1.1.2⟩, fun x hx => w1.2.1 x (List.mem_of_mem_drop hx), w1.2.2⟩⟩
     simp only [spec_l20Loop.j0]
     exact Ev.bind ho (ev_pos rfl (Ev.bind hc (ev_neg e0 (ev_pos e1 (ev_pos (by have := hA.1.1; omega) (ev_now rfl))))))
    ·by_cases e2 : c = 2
     ·refine ⟨R, C, A, D ++ [[]], p2 + 1, Ev.step (fun _ => rfl) ?_, by omega, by omega, ⟨⟨w1.1.1, by have := sD.1.2; simp; omega⟩, w1.2.1, fun x hx => ?_⟩⟩
      ·simp only [spec_l20Loop.j0]
       exact Ev.bind ho (ev_pos rfl (Ev.bind hc (ev_neg e0 (ev_neg e1 (ev_pos e2 (ev_pos (by have := sD.1.2; omega) (ev_now rfl)))))))
      ·rcases List.mem_append.1 hx with hx | hx
       ·exact w1.2.2 x hx
       ·rw [List.mem_singleton.1 hx]; simp
     ·have hD0 : 0 < D.length := sD.1.1
      have er : rd_L1 D (0 : Int) = D[0] := by unfold rd_L1; simp [hD0]
      have hrow : D[0].length ≤ 4 := sD.2 _ (List.getElem_mem hD0)
      refine ⟨R, C, A, D.set 0 (D[0] ++ [true]), p2 + 1, Ev.step (fun _ => rfl) ?_, by omega, by omega, ⟨⟨w1.1.1, by simpa using w1.1.2⟩, w1.2.1, fun x hx => ?_⟩⟩
      ·simp only [spec_l20Loop.j0]
       rw [er]
       exact Ev.bind ho (ev_pos rfl (Ev.bind hc (ev_neg e0 (ev_neg e1 (ev_neg e2 (ev_pos (by omega) (ev_pos (by omega) (ev_now rfl))))))))
      ·rcases List.mem_or_eq_of_mem_set hx with hx | rfl
       ·exact w1.2.2 x hx
       ·simp; omega
 obtain ⟨o, p2, ho, ho1, ho2, _⟩ := spec_l20Rd_odd_ev b p1 4 hb (by omega) (by omega) (by omega)
 cases o with
 | false =>
  obtain ⟨R', C', A', D', p', he, e1, e2, e3⟩ := j0 A p2 sA (by omega) (by omega)
  exact ⟨R', C', A', D', p', Ev.bind hi (Ev.bind hev (Ev.bind ho (ev_neg (by simp) he))), e1, e2, e3⟩
 | true =>
  have hw : wrap64 ((R : Int) + 1) = ((R + 1 : Nat) : Int) := w64s (by omega)
  obtain ⟨i, hi2, i0, i1, _⟩ := spec_l20Rd_pick_ev b p2 ((R + 1 : Nat) : Int) hb (by omega) (by omega) (by omega)
  have i1 := i1 (by omega)
  obtain ⟨j, hj, ja, jb, _⟩ := spec_l20Rd_pick_ev b (p2 + 1) (C : Int) hb (by omega) (by omega) (by omega)
  have jb := jb (by omega)
  obtain ⟨v, hv, _⟩ := spec_l20Rd_pick_ev b (p2 + 1 + 1) 2 hb (by omega) (by omega) (by omega)
  obtain ⟨i, rfl⟩ := Int.eq_ofNat_of_zero_le i0
  have hiA : i < A.length := by omega
  have er : rd_L1 A (i : Int) = A[i] := by unfold rd_L1; simp [hiA]
  have hrow : A[i].length = C := rA _ (List.getElem_mem hiA)
  obtain ⟨R', C', A', D', p', he, e1, e2, e3⟩ := j0 (A.set i (A[i].set j.toNat (v == 0))) (p2 + 1 + 1 + 1) (sA.set_ i j.toNat (v == 0) hiA) (by omega) (by omega)
  refine ⟨R', C', A', D', p', Ev.bind hi (Ev.bind hev (Ev.bind ho (ev_pos rfl ?_))), e1, e2, e3⟩
  rw [hw]
  refine Ev.bind hi2 (ev_pos i0 (ev_pos (show (i : Int) < (A.length : Int) by omega) (Ev.bind hj (Ev.bind hv ?_))))
  show Ev (fun k => if 0 ≤ j then (if j < ((rd_L1 A (i : Int)).length : Int) then spec_l20Loop.j0 k n b (p2 + 1 + 1 + 1) (R : Int) (C : Int) (A.set (i : Int).toNat ((rd_L1 A (i : Int)).set j.toNat (v == 0))) D else none) else none) _
  rw [er, Int.toNat_natCast]
  exact ev_pos ja (ev_pos (by omega) he)
theorem fr_un (g : List (Int × Int)) (a b p : Int) : impl_LoopClosed.fr (impl_LoopClosed.un g a b) p = if impl_LoopClosed.fr g p = impl_LoopClosed.fr g a then impl_LoopClosed.fr g b else impl_LoopClosed.fr g p := by
 unfold impl_LoopClosed.un
 by_cases h : impl_LoopClosed.fr g a = impl_LoopClosed.fr g b
 ·rw [if_pos h]
  by_cases e : impl_LoopClosed.fr g p = impl_LoopClosed.fr g a
  ·rw [if_pos e, e, h]
  ·rw [if_neg e]
 ·rw [if_neg h]; rfl
theorem fr_gs_snoc (es : List (Int × Int)) (a b : Int) (ih : ∀ p q, impl_LoopClosed.fr (impl_LoopClosed.gs [] es) p = impl_LoopClosed.fr (impl_LoopClosed.gs [] es) q ↔ Rc es p q) (p q : Int) :
  impl_LoopClosed.fr (impl_LoopClosed.gs [] (es ++ [(a, b)])) p = impl_LoopClosed.fr (impl_LoopClosed.gs [] (es ++ [(a, b)])) q ↔ Rc (es ++ [(a, b)]) p q := by
 have hs : ∀ e ∈ es, e ∈ es ++ [(a, b)] := fun e he => List.mem_append.2 (.inl he)
 have hab : Rc (es ++ [(a, b)]) a b := Rc.fwd .refl (by simp)
 rw [impl_LoopClosed.gs_snoc]
 have up : ∀ p q, Rc es p q → impl_LoopClosed.fr (impl_LoopClosed.un (impl_LoopClosed.gs [] es) a b) p = impl_LoopClosed.fr (impl_LoopClosed.un (impl_LoopClosed.gs [] es) a b) q := by
  intro p q h
  rw [fr_un, fr_un, (ih p q).2 h]
 have ab : impl_LoopClosed.fr (impl_LoopClosed.un (impl_LoopClosed.gs [] es) a b) a = impl_LoopClosed.fr (impl_LoopClosed.un (impl_LoopClosed.gs [] es) a b) b := by
  rw [fr_un, fr_un, if_pos rfl]
  split
  ·rfl
  ·rfl
 constructor
 ·intro h
  rw [fr_un, fr_un] at h
  by_cases e1 : impl_LoopClosed.fr (impl_LoopClosed.gs [] es) p = impl_LoopClosed.fr (impl_LoopClosed.gs [] es) a
  ·by_cases e2 : impl_LoopClosed.fr (impl_LoopClosed.gs [] es) q = impl_LoopClosed.fr (impl_LoopClosed.gs [] es) a
   ·exact ((ih p q).1 (e1.trans e2.symm)).mono hs
   ·rw [if_pos e1, if_neg e2] at h
    exact (((ih p a).1 e1).mono hs).trans (hab.trans (((ih b q).1 h).mono hs))
  ·by_cases e2 : impl_LoopClosed.fr (impl_LoopClosed.gs [] es) q = impl_LoopClosed.fr (impl_LoopClosed.gs [] es) a
   ·rw [if_neg e1, if_pos e2] at h
    exact (((ih p b).1 h).mono hs).trans (hab.symm.trans (((ih a q).1 e2.symm).mono hs))
   ·rw [if_neg e1, if_neg e2] at h
    exact ((ih p q).1 h).mono hs
 ·intro h
  induction h with
  | refl => rfl
  | fwd _ he ih2 =>
   rw [ih2]
   rcases List.mem_append.1 he with he | he
   ·exact up _ _ (Rc.fwd .refl he)
   ·have he := List.mem_singleton.1 he
    injection he with e1 e2
    rw [e1, e2]; exact ab
  | bwd _ he ih2 =>
   rw [ih2]
   rcases List.mem_append.1 he with he | he
   ·exact up _ _ (Rc.bwd .refl he)
   ·have he := List.mem_singleton.1 he
    injection he with e1 e2
    rw [e1, e2]; exact ab.symm
theorem fr_gs (es : List (Int × Int)) : ∀ p q, impl_LoopClosed.fr (impl_LoopClosed.gs [] es) p = impl_LoopClosed.fr (impl_LoopClosed.gs [] es) q ↔ Rc es p q := by
 have key : ∀ n, ∀ es : List (Int × Int), es.length = n → ∀ p q, impl_LoopClosed.fr (impl_LoopClosed.gs [] es) p = impl_LoopClosed.fr (impl_LoopClosed.gs [] es) q ↔ Rc es p q := by
  intro n
  induction n with
  | zero =>
   intro es h p q
   have := List.eq_nil_of_length_eq_zero h
   subst this
   constructor
   ·intro h
    have h : p = q := h
    rw [h]; exact .refl
   ·intro h
    induction h with
    | refl => rfl
    | fwd _ he _ => cases he
    | bwd _ he _ => cases he
  | succ n ih =>
   intro es h
   have hne : es ≠ [] := by intro e; rw [e] at h; cases h
   obtain ⟨es', e, rfl⟩ : ∃ es' e, es = es' ++ [e] := ⟨es.dropLast, es.getLast hne, (List.dropLast_concat_getLast hne).symm⟩
   obtain ⟨a, b⟩ := e
   exact fr_gs_snoc es' a b (ih es' (by simpa using h))
 exact key _ es rfl
theorem cn_cnt (p : Int) : ∀ es : List (Int × Int), impl_LoopClosed.cn es p = Mo.cnt es p
 | [] => rfl
 | e :: t => by rw [impl_LoopClosed.cn, Mo.cnt, cn_cnt p t]
theorem cl_closed {R C : Nat} {A D : List (List Bool)} (h : Mo.Fld R C A D) : impl_LoopClosed.cl (Mo.edges ((C : Int) + 1) A D) = true ↔ Mo.Closed R C A D := by
 cases he : Mo.edges ((C : Int) + 1) A D with
 | nil =>
  constructor
  ·intro hh; cases hh
  ·intro hc; exact absurd he (hc.ne_nil h)
 | cons e0 t =>
  rw [impl_LoopClosed.cl_good, h.closed_iff he]
  unfold impl_LoopClosed.Good
  constructor
  ·intro hg p hp
   rw [← cn_cnt] at hp
   obtain ⟨h1, h2⟩ := hg p hp
   rw [← cn_cnt]
   exact ⟨h1, (fr_gs _ _ _).1 h2⟩
  ·intro hg p hp
   rw [cn_cnt] at hp
   obtain ⟨h1, h2⟩ := hg p hp
   rw [cn_cnt]
   exact ⟨h1, (fr_gs _ _ _).2 h2⟩
theorem impl_LoopClosed_ev (R C : Int) (A D : List (List Bool)) : ∃ b, Ev (fun k => impl_LoopClosed.f k R C A D) b ∧ (b = true ↔ Mo.FieldOk R C A D ∧ Mo.Closed R.toNat C.toNat A D) := by
 unfold impl_LoopClosed.f
 by_cases h : Mo.FieldOk R C A D
 ·obtain ⟨R', C', rfl, rfl, hf⟩ := h.fld
  have hR := hf.hR; have hC := hf.hC
  refine ⟨impl_LoopClosed.cl (Mo.edges ((C' : Int) + 1) A D), Ev.bind (impl_LoopValid_ev _ _ A D) (ev_pos (by simpa using h) (Ev.bind (impl_edgesOf_ev R' C' A D hf) ?_)), ?_⟩
  ·have e : ((Mo.edges ((C' : Int) + 1) A D).map toE).map impl_LoopClosed.pr = Mo.edges ((C' : Int) + 1) A D := by
    rw [List.map_map]
    have : impl_LoopClosed.pr ∘ toE = id := by funext p; rfl
    rw [this, List.map_id]
   rw [e]
   have hl := hf.edges_length ((C' : Int) + 1)
   have hn := hf.na_le
   refine ev_pos (by rw [List.length_map, hl]; omega) (ev_pos (fun e he => ?_) (ev_now rfl))
   have hb := hf.end_pt he
   have := Mo.np_le hR.2 hC.2
   exact ⟨wf_i64.2 (by omega), wf_i64.2 (by omega)⟩
  ·rw [cl_closed hf]
   simp only [Int.toNat_natCast]
   exact ⟨fun hc => ⟨h, hc⟩, fun hc => hc.2⟩
 ·exact ⟨false, Ev.bind (impl_LoopValid_ev _ _ A D) (ev_neg (by simpa using h) (ev_now rfl)), by simp [h]⟩
theorem spec_l17Reach_ev (R C : Nat) (A D : List (List Bool)) (h : Mo.Fld R C A D) (r c : Nat) (hr : r ≤ R) (hc : c ≤ C) (Lf : List Int) (hLf : Mo.Comp R C A D (Mo.pt C r c) Lf) :
  Ev (fun k => spec_l17Reach.f k (R : Int) (C : Int) A D (r : Int) (c : Int)) ((Mo.lsum C A D Lf / 2 : Nat) : Int) := by
 have hR := h.hR; have hC := h.hC; have lA := h.lA; have lD := h.lD
 have hnp := Mo.np_le hR.2 hC.2
 have w1 : Unit → wrap64 ((C : Int) + 1) = (C : Int) + 1 := fun _ => w64 (by omega) (by omega)
 have w2 : Unit → wrap64 ((R : Int) + 1) = ((R + 1 : Nat) : Int) := fun _ => by rw [w64 (by omega) (by omega)]; omega
 have inner : ∀ (y x : Nat), y ≤ R → x ≤ C → ∀ (s kk : Nat), ∀ j, j ≤ (Mo.nbs C A D y x).length → ∀ L, Mo.Grow R C A D (Mo.pt C r c) kk L → (hk : kk < L.length) → L[kk] = Mo.pt C y x → s = Mo.lsum C A D (L.take (kk + 1)) →
   (∀ j', (hj : j' < (Mo.nbs C A D y x).length) → j' < j → (Mo.nbs C A D y x)[j'] ∈ L) →
   (∀ L', Mo.Grow R C A D (Mo.pt C r c) (kk + 1) L' → kk + 1 ≤ L'.length → s = Mo.lsum C A D (L'.take (kk + 1)) → Ev (fun k => spec_l17Reach.l0 k (Mo.met (Mo.np R C) L') L' (s : Int) ((kk + 1 : Nat) : Int) (R : Int) (C : Int) A D) ((Mo.lsum C A D Lf / 2 : Nat) : Int)) →
   Ev (fun k => spec_l17Reach.l1 k (Mo.met (Mo.np R C) L) L (s : Int) (kk : Int) (Mo.nbs C A D y x) (j : Int) (R : Int) (C : Int) A D) ((Mo.lsum C A D Lf / 2 : Nat) : Int) := by
  intro y x hy hx s kk
  refine up (Mo.nbs C A D y x).length ?_ ?_
  ·intro L g hk hkv hs hall hgo
   have hlen := Mo.len_np g.nodup g.bound
   refine Ev.step (fun _ => rfl) ?_
   simp only [spec_l17Reach.l1]
   refine ev_neg (by omega) ?_
   rw [w64s (by omega)]
   refine hgo L ⟨g.nodup, g.bound, g.has, g.conn, fun j' hj' hjk y' x' hy' hx' e q hq => ?_⟩ (by omega) hs
   by_cases e2 : j' = kk
   ·subst e2
    rw [hkv] at e
    obtain ⟨rfl, rfl⟩ := (Mo.pt_inj hx hx').1 e
    obtain ⟨i, hi, rfl⟩ := List.getElem_of_mem hq
    exact hall i hi hi
   ·exact g.done j' hj' (by omega) y' x' hy' hx' e q hq
  ·intro j hj ih L g hk hkv hs hall hgo
   have hlen := Mo.len_np g.nodup g.bound
   have hnl := Mo.nbs_len C A D y x
   have hmem : (Mo.nbs C A D y x)[j] ∈ Mo.nbs C A D y x := List.getElem_mem _
   have he := (h.mem_nbs hy hx _).1 hmem
   have hqb : 0 ≤ (Mo.nbs C A D y x)[j] ∧ (Mo.nbs C A D y x)[j] < Mo.np R C := by
    rcases he with he | he
    ·exact (h.end_pt he).2
    ·exact (h.end_pt he).1
   refine Ev.step (fun _ => rfl) ?_
   simp only [spec_l17Reach.l1]
   rw [rd_nat _ j hj, w64s (by omega), Mo.met_get hqb.1 hqb.2]
   refine ev_pos (by omega) (ev_pos (by omega) (ev_pos hqb.1 (ev_pos (by rw [Mo.met_length]; exact hqb.2) ?_)))
   by_cases hin : (Mo.nbs C A D y x)[j] ∈ L
   ·refine ev_pos (by simpa using hin) (ih L g hk hkv hs (fun j' hj' hlt => ?_) hgo)
    by_cases e : j' = j
    ·subst e; exact hin
    ·exact hall j' hj' (by omega)
   ·refine ev_neg (by simpa using hin) (ev_pos (by omega) ?_)
    rw [Mo.met_set hqb.1]
    have hkm : Mo.pt C y x ∈ L := hkv ▸ List.getElem_mem hk
    refine ih _ (g.add h hy hx hkm hmem hin hk) (by simp; omega) (by rw [List.getElem_append_left hk]; exact hkv) (by rw [List.take_append_of_le_length (by omega)]; exact hs) (fun j' hj' hlt => ?_) hgo
    by_cases e : j' = j
    ·subst e; exact List.mem_append.2 (.inr (List.mem_singleton.2 rfl))
    ·exact List.mem_append.2 (.inl (hall j' hj' (by omega)))
 have key : ∀ kk, kk ≤ Mo.np R C → ∀ L, Mo.Grow R C A D (Mo.pt C r c) kk L → kk ≤ L.length → ∀ s, s = Mo.lsum C A D (L.take kk) →
   Ev (fun k => spec_l17Reach.l0 k (Mo.met (Mo.np R C) L) L (s : Int) (kk : Int) (R : Int) (C : Int) A D) ((Mo.lsum C A D Lf / 2 : Nat) : Int) := by
  have fin : ∀ L, Mo.Grow R C A D (Mo.pt C r c) L.length L → ∀ s, s = Mo.lsum C A D L →
    Ev (fun k => spec_l17Reach.l0 k (Mo.met (Mo.np R C) L) L (s : Int) (L.length : Int) (R : Int) (C : Int) A D) ((Mo.lsum C A D Lf / 2 : Nat) : Int) := by
   intro L g s hs
   have hlen := Mo.len_np g.nodup g.bound
   have hsl := Mo.lsum_le C A D L
   rw [(g.comp h).sum_eq hLf] at hs hsl
   refine Ev.step (fun _ => rfl) ?_
   simp only [spec_l17Reach.l0]
   refine ev_neg (by omega) (ev_now ?_)
   rw [hs, Int.tdiv_eq_ediv_of_nonneg (by omega), w64 (by omega) (by omega)]; omega
  refine up (Mo.np R C) ?_ ?_
  ·intro L g hl s hs
   have hlen := Mo.len_np g.nodup g.bound
   have e : Mo.np R C = L.length := by omega
   rw [e] at g hs
   have := fin L g s (by rw [hs, List.take_length])
   rw [← e] at this; exact this
  ·intro kk hkn ih L g hl s hs
   have hlen := Mo.len_np g.nodup g.bound
   by_cases e : kk = L.length
   ·subst e
    exact fin L g s (by rw [hs, List.take_length])
   ·have hk : kk < L.length := by omega
    obtain ⟨p0, p1⟩ := g.bound _ (List.getElem_mem hk)
    obtain ⟨y, x, hy, hx, hpt⟩ := Mo.pt_of p0 p1
    have hsl := Mo.lsum_le C A D (L.take kk)
    rw [← hs, List.length_take] at hsl
    have hd := Mo.deg_le A D y x
    have hs2 : s + Mo.deg A D y x = Mo.lsum C A D (L.take (kk + 1)) := by
     rw [List.take_succ_eq_append_getElem hk, Mo.lsum_append, ← hs, hpt]
     have : Mo.lsum C A D [Mo.pt C y x] = Mo.deg A D y x := by
      show Mo.dp C A D (Mo.pt C y x).toNat + 0 = _
      unfold Mo.pt
      rw [Int.toNat_natCast, Mo.dp_at A D y x hx]; rfl
     rw [this]
    refine Ev.step (fun _ => rfl) ?_
    simp only [spec_l17Reach.l0]
    rw [w1 (), rd_nat L kk hk, hpt, Mo.pt_div hC.2 (by omega) hx, Mo.pt_mod hx]
    refine ev_pos (by omega) (ev_pos (by omega) (ev_neg (by omega) (Ev.bind (spec_l17Degree_ev R C A D h y x hy hx) (ev_some ?_))))
    have ws : Unit → wrap64 ((s : Int) + (Mo.deg A D y x : Int)) = ((s + Mo.deg A D y x : Nat) : Int) := fun _ => by rw [w64 (by omega) (by omega)]; omega
    rw [ws ()]
    have p2 := Mo.pt_lt hy hx
    have j8 : Ev (fun k => spec_l17Reach.j8 k (Mo.met (Mo.np R C) L) L ((s + Mo.deg A D y x : Nat) : Int) (kk : Int) (Mo.nbs C A D y x) (R : Int) (C : Int) A D) ((Mo.lsum C A D Lf / 2 : Nat) : Int) := by
     refine Ev.step (fun _ => rfl) ?_
     simp only [spec_l17Reach.j8]
     exact inner y x hy hx _ kk 0 (by omega) L g hk hpt hs2 (fun j' _ h0 => by omega) (fun L' g' hl' hs' => ih L' g' hl' _ hs')
    have w3 : Unit → wrap64 (Mo.pt C y x + 1) = Mo.pt C y x + 1 := fun _ => w64 (by omega) (by omega)
    have w4 : Unit → wrap64 (Mo.pt C y x - 1) = Mo.pt C y x - 1 := fun _ => w64 (by omega) (by omega)
    have w5 : Unit → wrap64 (wrap64 (Mo.pt C y x + C) + 1) = Mo.pt C y x + C + 1 := fun _ => by rw [w64 (n := Mo.pt C y x + C) (by omega) (by omega), w64 (by omega) (by omega)]
    have w6 : Unit → wrap64 (wrap64 (Mo.pt C y x - C) - 1) = Mo.pt C y x - C - 1 := fun _ => by rw [w64 (n := Mo.pt C y x - C) (by omega) (by omega), w64 (by omega) (by omega)]
    have rA := h.rA y (by omega)
    have rD := h.rD x (by omega)
    have eA : rd_L1 A (y : Int) = A.getD y [] := rfl
    have eD : rd_L1 D (x : Int) = D.getD x [] := rfl
    have gA : rdOf false (A.getD y []) (x : Int) = Mo.ga A y x := rfl
    have gD : rdOf false (D.getD x []) (y : Int) = Mo.ga D x y := rfl
    have j7 : ∀ (b : Bool) (n : List Int), n.length ≤ 3 → n ++ (if b = true then [Mo.pt C y x - C - 1] else []) = Mo.nbs C A D y x → Ev (fun k => spec_l17Reach.j7 k (Mo.met (Mo.np R C) L) L ((s + Mo.deg A D y x : Nat) : Int) (kk : Int) n b (R : Int) (C : Int) A D) ((Mo.lsum C A D Lf / 2 : Nat) : Int) := by
     intro b n hn hb
     refine Ev.step (fun _ => rfl) ?_
     simp only [spec_l17Reach.j7]
     rw [rd_nat L kk hk, hpt, w6 ()]
     cases b with
     | true =>
      rw [if_pos rfl] at hb
      refine ev_pos rfl (ev_pos (by omega) (ev_pos (by omega) (ev_pos (by omega) ?_)))
      rw [hb]; exact j8
     | false =>
      rw [if_neg (by simp), List.append_nil] at hb
      refine ev_neg (by simp) ?_
      rw [hb]; exact j8
    have j6 : ∀ (n : List Int), n.length ≤ 3 → n ++ (if y ≠ 0 ∧ Mo.ga D x (y - 1) = true then [Mo.pt C y x - C - 1] else []) = Mo.nbs C A D y x → Ev (fun k => spec_l17Reach.j6 k (Mo.met (Mo.np R C) L) L ((s + Mo.deg A D y x : Nat) : Int) (kk : Int) (y : Int) (x : Int) n (R : Int) (C : Int) A D) ((Mo.lsum C A D Lf / 2 : Nat) : Int) := by
     intro n hn hb
     refine Ev.step (fun _ => rfl) ?_
     simp only [spec_l17Reach.j6]
     rw [eD]
     by_cases h0 : y = 0
     ·refine ev_neg (by omega) (j7 false n hn ?_)
      rw [if_neg (by simp)]; rwa [if_neg (by omega)] at hb
     ·have w7 : Unit → wrap64 ((y : Int) - 1) = ((y - 1 : Nat) : Int) := fun _ => by rw [w64 (by omega) (by omega)]; omega
      have g3 : rdOf false (D.getD x []) ((y - 1 : Nat) : Int) = Mo.ga D x (y - 1) := rfl
      rw [w7 (), g3]
      refine ev_pos (by omega) (ev_pos (by omega) (ev_pos (by omega) (ev_pos (by omega) (ev_pos (by omega) (j7 _ n hn ?_)))))
      rw [← hb]
      congr 1
      by_cases hh : Mo.ga D x (y - 1) = true
      ·rw [if_pos hh, if_pos ⟨h0, hh⟩]
      ·rw [if_neg hh, if_neg (fun e => hh e.2)]
    have j5 : ∀ (b : Bool) (n : List Int), n.length ≤ 2 → (n ++ (if b = true then [Mo.pt C y x + C + 1] else [])) ++ (if y ≠ 0 ∧ Mo.ga D x (y - 1) = true then [Mo.pt C y x - C - 1] else []) = Mo.nbs C A D y x → Ev (fun k => spec_l17Reach.j5 k (Mo.met (Mo.np R C) L) L ((s + Mo.deg A D y x : Nat) : Int) (kk : Int) (y : Int) (x : Int) n b (R : Int) (C : Int) A D) ((Mo.lsum C A D Lf / 2 : Nat) : Int) := by
     intro b n hn hb
     refine Ev.step (fun _ => rfl) ?_
     simp only [spec_l17Reach.j5]
     rw [rd_nat L kk hk, hpt, w5 ()]
     cases b with
     | true =>
      rw [if_pos rfl] at hb
      exact ev_pos rfl (ev_pos (by omega) (ev_pos (by omega) (ev_pos (by omega) (j6 _ (by simp; omega) hb))))
     | false =>
      rw [if_neg (by simp), List.append_nil] at hb
      exact ev_neg (by simp) (j6 n (by omega) hb)
    have j4 : ∀ (n : List Int), n.length ≤ 2 → (n ++ (if Mo.ga D x y = true then [Mo.pt C y x + C + 1] else [])) ++ (if y ≠ 0 ∧ Mo.ga D x (y - 1) = true then [Mo.pt C y x - C - 1] else []) = Mo.nbs C A D y x → Ev (fun k => spec_l17Reach.j4 k (Mo.met (Mo.np R C) L) L ((s + Mo.deg A D y x : Nat) : Int) (kk : Int) (y : Int) (x : Int) n (R : Int) (C : Int) A D) ((Mo.lsum C A D Lf / 2 : Nat) : Int) := by
     intro n hn hb
     refine Ev.step (fun _ => rfl) ?_
     simp only [spec_l17Reach.j4]
     rw [eD, gD]
     by_cases hlt : y < R
     ·exact ev_pos (by omega) (ev_pos (by omega) (ev_pos (by omega) (ev_pos (by omega) (ev_pos (by omega) (j5 _ n hn hb)))))
     ·refine ev_neg (by omega) (j5 false n hn ?_)
      rwa [h.d0 x y (.inr (by omega))] at hb
    have j3 : ∀ (b : Bool) (n : List Int), n.length ≤ 1 → ((n ++ (if b = true then [Mo.pt C y x - 1] else [])) ++ (if Mo.ga D x y = true then [Mo.pt C y x + C + 1] else [])) ++ (if y ≠ 0 ∧ Mo.ga D x (y - 1) = true then [Mo.pt C y x - C - 1] else []) = Mo.nbs C A D y x → Ev (fun k => spec_l17Reach.j3 k (Mo.met (Mo.np R C) L) L ((s + Mo.deg A D y x : Nat) : Int) (kk : Int) (y : Int) (x : Int) n b (R : Int) (C : Int) A D) ((Mo.lsum C A D Lf / 2 : Nat) : Int) := by
     intro b n hn hb
     refine Ev.step (fun _ => rfl) ?_
     simp only [spec_l17Reach.j3]
     rw [rd_nat L kk hk, hpt, w4 ()]
     cases b with
     | true =>
      rw [if_pos rfl] at hb
      exact ev_pos rfl (ev_pos (by omega) (ev_pos (by omega) (ev_pos (by omega) (j4 _ (by simp; omega) hb))))
     | false =>
      rw [if_neg (by simp), List.append_nil] at hb
      exact ev_neg (by simp) (j4 n (by omega) hb)
    have j2 : ∀ (n : List Int), n.length ≤ 1 → ((n ++ (if x ≠ 0 ∧ Mo.ga A y (x - 1) = true then [Mo.pt C y x - 1] else [])) ++ (if Mo.ga D x y = true then [Mo.pt C y x + C + 1] else [])) ++ (if y ≠ 0 ∧ Mo.ga D x (y - 1) = true then [Mo.pt C y x - C - 1] else []) = Mo.nbs C A D y x → Ev (fun k => spec_l17Reach.j2 k (Mo.met (Mo.np R C) L) L ((s + Mo.deg A D y x : Nat) : Int) (kk : Int) (y : Int) (x : Int) n (R : Int) (C : Int) A D) ((Mo.lsum C A D Lf / 2 : Nat) : Int) := by
     intro n hn hb
     refine Ev.step (fun _ => rfl) ?_
     simp only [spec_l17Reach.j2]
     rw [eA]
     by_cases h0 : x = 0
     ·refine ev_neg (by omega) (j3 false n hn ?_)
      rw [if_neg (by simp)]; rwa [if_neg (show ¬ (x ≠ 0 ∧ Mo.ga A y (x - 1) = true) by omega)] at hb
     ·have w7 : Unit → wrap64 ((x : Int) - 1) = ((x - 1 : Nat) : Int) := fun _ => by rw [w64 (by omega) (by omega)]; omega
      have g3 : rdOf false (A.getD y []) ((x - 1 : Nat) : Int) = Mo.ga A y (x - 1) := rfl
      rw [w7 (), g3]
      refine ev_pos (by omega) (ev_pos (by omega) (ev_pos (by omega) (ev_pos (by omega) (ev_pos (by omega) (j3 _ n hn ?_)))))
      rw [← hb]
      congr 3
      by_cases hh : Mo.ga A y (x - 1) = true
      ·rw [if_pos hh, if_pos ⟨h0, hh⟩]
      ·rw [if_neg hh, if_neg (fun e => hh e.2)]
    have j1 : ∀ (b : Bool), ((([] ++ (if b = true then [Mo.pt C y x + 1] else [])) ++ (if x ≠ 0 ∧ Mo.ga A y (x - 1) = true then [Mo.pt C y x - 1] else [])) ++ (if Mo.ga D x y = true then [Mo.pt C y x + C + 1] else [])) ++ (if y ≠ 0 ∧ Mo.ga D x (y - 1) = true then [Mo.pt C y x - C - 1] else []) = Mo.nbs C A D y x → Ev (fun k => spec_l17Reach.j1 k (Mo.met (Mo.np R C) L) L ((s + Mo.deg A D y x : Nat) : Int) (kk : Int) (y : Int) (x : Int) [] b (R : Int) (C : Int) A D) ((Mo.lsum C A D Lf / 2 : Nat) : Int) := by
     intro b hb
     refine Ev.step (fun _ => rfl) ?_
     simp only [spec_l17Reach.j1]
     rw [rd_nat L kk hk, hpt, w3 ()]
     cases b with
     | true =>
      rw [if_pos rfl] at hb
      exact ev_pos rfl (ev_pos (by omega) (ev_pos (by omega) (ev_pos (by simp) (j2 _ (by simp) hb))))
     | false =>
      rw [if_neg (by simp)] at hb
      exact ev_neg (by simp) (j2 [] (by simp) hb)
    rw [eA, gA]
    by_cases hlt : x < C
    ·exact ev_pos (by omega) (ev_pos (by omega) (ev_pos (by omega) (ev_pos (by omega) (ev_pos (by omega) (j1 _ rfl)))))
    ·refine ev_neg (by omega) (j1 false ?_)
     have := h.a0 y x (.inr (by omega))
     unfold Mo.nbs
     rw [this]; rfl
 have w8 : Unit → wrap64 (((R + 1 : Nat) : Int) * ((C : Int) + 1)) = (Mo.np R C : Int) := fun _ => by
  have e : ((R + 1 : Nat) : Int) * ((C : Int) + 1) = (Mo.np R C : Int) := by unfold Mo.np; push_cast; rfl
  rw [e]; exact w64 (by omega) (by omega)
 have hp := Mo.pt_lt hr hc
 have w9 : Unit → wrap64 (wrap64 ((r : Int) * ((C : Int) + 1)) + c) = Mo.pt C r c := fun _ => by
  have e : (r : Int) * ((C : Int) + 1) + c = Mo.pt C r c := Mo.ofNat_ix C r c
  have : 0 ≤ (r : Int) * ((C : Int) + 1) := Int.mul_nonneg (by omega) (by omega)
  rw [w64 (n := (r : Int) * ((C : Int) + 1)) (by omega) (by omega), e]
  exact w64 (by omega) (by omega)
 unfold spec_l17Reach.f
 rw [w1 (), w2 (), w8 (), w9 (), Int.toNat_natCast]
 refine ev_pos (by omega) (ev_pos (by omega) (ev_some (ev_some (ev_pos (by simp) ?_))))
 have e0 : rd [Mo.pt C r c] 0 = Mo.pt C r c := rfl
 rw [e0, Mo.met_one hp.1]
 refine ev_pos hp.1 (ev_pos (by simpa using hp.2) ?_)
 refine key 0 (by omega) [Mo.pt C r c] ⟨by simp, fun q hq => ?_, List.mem_singleton.2 rfl, fun q hq => ?_, fun j hj h0 => by omega⟩ (by simp) 0 rfl
 ·rw [List.mem_singleton.1 hq]; exact hp
 ·rw [List.mem_singleton.1 hq]; exact .refl
theorem spec_LoopClosed_ev (R C : Int) (A D : List (List Bool)) : ∃ b, Ev (fun k => spec_LoopClosed.f k R C A D) b ∧ (b = true ↔ Mo.FieldOk R C A D ∧ Mo.Closed R.toNat C.toNat A D) := by
 unfold spec_LoopClosed.f
 by_cases h : Mo.FieldOk R C A D
 ·have hlen := spec_LoopLength_ev R C A D
  rw [if_pos h] at hlen
  obtain ⟨R', C', rfl, rfl, hf⟩ := h.fld
  have hR := hf.hR; have hC := hf.hC
  simp only [Int.toNat_natCast] at hlen ⊢
  by_cases hn : 0 < Mo.nEdges R' C' A D
  ·
   let good : Nat → Nat → Prop := fun y x => Mo.deg A D y x ≠ 0 → Mo.deg A D y x = 2 ∧ ∀ y' x', y' ≤ R' → x' ≤ C' → Mo.deg A D y' x' ≠ 0 → Mo.Rc (Mo.edges ((C' : Int) + 1) A D) (Mo.pt C' y x) (Mo.pt C' y' x')
   have l1 : ∀ (y : Nat), y ≤ R' → (∃ bn, Ev (fun k => spec_LoopClosed.l0 k (Mo.nEdges R' C' A D : Int) ((y + 1 : Nat) : Int) (R' : Int) (C' : Int) A D) bn ∧ (bn = true ↔ ∀ y' x, y + 1 ≤ y' → y' ≤ R' → x ≤ C' → good y' x)) →
     ∀ x, x ≤ C' + 1 → ∃ b, Ev (fun k => spec_LoopClosed.l1 k (Mo.nEdges R' C' A D : Int) (y : Int) (x : Int) (R' : Int) (C' : Int) A D) b ∧ (b = true ↔ (∀ x', x ≤ x' → x' ≤ C' → good y x') ∧ ∀ y' x, y + 1 ≤ y' → y' ≤ R' → x ≤ C' → good y' x) := by
    intro y hy ⟨bn, hbn, hbi⟩
    refine up (C' + 1) ?_ ?_
    ·refine ⟨bn, Ev.step (fun _ => rfl) ?_, ?_⟩
     ·simp only [spec_LoopClosed.l1]
      refine ev_neg (by omega) ?_
      rw [w64s (by omega)]; exact hbn
     ·rw [hbi]
      exact ⟨fun hh => ⟨fun x' h1 h2 => by omega, hh⟩, fun hh => hh.2⟩
    ·intro x hx ih
     obtain ⟨b, hb, hbi2⟩ := ih
     have hdeg := spec_l17Degree_ev R' C' A D hf y x hy (by omega)
     have hsplit : ((∀ x', x ≤ x' → x' ≤ C' → good y x') ∧ ∀ y' x, y + 1 ≤ y' → y' ≤ R' → x ≤ C' → good y' x) ↔ good y x ∧ (∀ x', x + 1 ≤ x' → x' ≤ C' → good y x') ∧ ∀ y' x, y + 1 ≤ y' → y' ≤ R' → x ≤ C' → good y' x := by
      constructor
      ·rintro ⟨h1, h2⟩
       exact ⟨h1 x (Nat.le_refl _) (by omega), fun x' h3 h4 => h1 x' (by omega) h4, h2⟩
      ·rintro ⟨h0, h1, h2⟩
       refine ⟨fun x' h3 h4 => ?_, h2⟩
       by_cases e : x' = x
       ·subst e; exact h0
       ·exact h1 x' (by omega) h4
     by_cases d0 : Mo.deg A D y x = 0
     ·refine ⟨b, Ev.step (fun _ => rfl) ?_, ?_⟩
      ·simp only [spec_LoopClosed.l1]
       refine ev_pos (by omega) (Ev.bind hdeg (ev_pos (by omega) ?_))
       rw [w64s (by omega)]; exact hb
      ·rw [hsplit, hbi2]
       exact ⟨fun hh => ⟨fun hd => absurd d0 hd, hh⟩, fun hh => hh.2⟩
     ·by_cases d2 : Mo.deg A D y x = 2
      ·obtain ⟨L, hL⟩ := hf.comp_exists (Mo.pt_lt hy (show x ≤ C' by omega))
       have hre := spec_l17Reach_ev R' C' A D hf y x hy (by omega) L hL
       have hfull := hf.reach_full hL
       by_cases hq : Mo.lsum C' A D L / 2 = Mo.nEdges R' C' A D
       ·refine ⟨b, Ev.step (fun _ => rfl) ?_, ?_⟩
        ·simp only [spec_LoopClosed.l1]
         refine ev_pos (by omega) (Ev.bind hdeg (ev_neg (by omega) (ev_pos (by omega) (Ev.bind hre (ev_pos (by omega) ?_)))))
         rw [w64s (by omega)]; exact hb
        ·rw [hsplit, hbi2]
         exact ⟨fun hh => ⟨fun _ => ⟨d2, hfull.1 hq⟩, hh⟩, fun hh => hh.2⟩
       ·refine ⟨false, Ev.step (fun _ => rfl) ?_, ?_⟩
        ·simp only [spec_LoopClosed.l1]
         exact ev_pos (by omega) (Ev.bind hdeg (ev_neg (by omega) (ev_pos (by omega) (Ev.bind hre (ev_neg (by omega) (ev_now rfl))))))
        ·rw [hsplit]
         refine ⟨fun hh => (by cases hh), fun hh => absurd (hfull.2 (hh.1 d0).2) hq⟩
      ·refine ⟨false, Ev.step (fun _ => rfl) ?_, ?_⟩
       ·simp only [spec_LoopClosed.l1]
        exact ev_pos (by omega) (Ev.bind hdeg (ev_neg (by omega) (ev_neg (by omega) (ev_now rfl))))
       ·rw [hsplit]
        refine ⟨fun hh => (by cases hh), fun hh => absurd (hh.1 d0).1 d2⟩
   have l0 : ∀ y, y ≤ R' + 1 → ∃ b, Ev (fun k => spec_LoopClosed.l0 k (Mo.nEdges R' C' A D : Int) (y : Int) (R' : Int) (C' : Int) A D) b ∧ (b = true ↔ ∀ y' x, y ≤ y' → y' ≤ R' → x ≤ C' → good y' x) := by
    refine up (R' + 1) ?_ ?_
    ·refine ⟨true, Ev.step (fun _ => rfl) ?_, ⟨fun _ y' x h1 h2 => by omega, fun _ => rfl⟩⟩
     simp only [spec_LoopClosed.l0]
     refine ev_neg (by omega) (Ev.step (fun _ => rfl) ?_)
     simp only [spec_LoopClosed.j1]
     exact ev_neg (by simp) (ev_now (by simp; omega))
    ·intro y hy ih
     obtain ⟨b, hb, hbi⟩ := l1 y (by omega) ih 0 (by omega)
     refine ⟨b, Ev.step (fun _ => rfl) ?_, ?_⟩
     ·simp only [spec_LoopClosed.l0]
      refine ev_pos (by omega) (Ev.step (fun _ => rfl) ?_)
      simp only [spec_LoopClosed.j1]
      exact ev_pos (by simp; omega) hb
     ·rw [hbi]
      constructor
      ·rintro ⟨h1, h2⟩ y' x h3 h4 h5
       by_cases e : y' = y
       ·subst e; exact h1 x (Nat.zero_le _) h5
       ·exact h2 y' x (by omega) h4 h5
      ·intro hh
       exact ⟨fun x' _ h2 => hh y x' (Nat.le_refl _) (by omega) h2, fun y' x h1 h2 h3 => hh y' x (by omega) h2 h3⟩
   obtain ⟨b, hb, hbi⟩ := l0 0 (by omega)
   refine ⟨b, Ev.bind hlen hb, ?_⟩
   rw [hbi]
   exact ⟨fun hh => ⟨h, hn, fun y x h1 h2 => hh y x (Nat.zero_le _) h1 h2⟩, fun hh y x _ h1 h2 => hh.2.2 y x h1 h2⟩
  ·refine ⟨false, Ev.bind hlen (Ev.step (fun _ => rfl) ?_), ⟨fun hh => (by cases hh), fun hh => absurd hh.2.1 hn⟩⟩
   simp only [spec_LoopClosed.l0]
   refine ev_pos (by omega) (Ev.step (fun _ => rfl) ?_)
   simp only [spec_LoopClosed.j1]
   exact ev_neg (by simp; omega) (ev_now (by simp; omega))
 ·have hlen := spec_LoopLength_ev R C A D
  rw [if_neg h] at hlen
  refine ⟨false, Ev.bind hlen (Ev.step (fun _ => rfl) ?_), ⟨fun hh => (by cases hh), fun hh => absurd hh.1 h⟩⟩
  simp only [spec_LoopClosed.l0]
  have no : Ev (fun k => spec_LoopClosed.j1 k (-1) 0 false R C A D) false := by
   refine Ev.step (fun _ => rfl) ?_
   simp only [spec_LoopClosed.j1]
   exact ev_neg (by simp) (ev_now (by simp))
  have e : decide ((-1 : Int) > 0) = false := by simp
  rw [e]
  by_cases h0 : 0 ≤ R
  ·exact ev_pos h0 no
  ·exact ev_neg h0 no
theorem laws_sameFlags_ev (a b : List Bool) (ha : a.length ≤ 4611686018427387904) : Ev (fun k => laws_sameFlags.f k a b) (decide (a = b)) := by
 have key : b.length = a.length → ∀ i, i ≤ a.length → Ev (fun k => laws_sameFlags.l0 k a b (i : Int)) (decide (a.drop i = b.drop i)) := by
  intro hl
  refine up a.length ?_ ?_
  ·refine Ev.step (fun _ => rfl) ?_
   simp only [laws_sameFlags.l0]
   refine ev_neg (by omega) (ev_now ?_)
   rw [List.drop_length, ← hl, List.drop_length]; simp
  ·intro i hi ih
   refine Ev.step (fun _ => rfl) ?_
   simp only [laws_sameFlags.l0]
   refine ev_pos (by omega) (ev_pos (by omega) (ev_pos (by omega) ?_))
   rw [rdOf_nat false a i hi, rdOf_nat false b i (by omega), w64s (by omega), drop_step a i hi, drop_step b i (by omega)]
   by_cases e : a[i] = b[i]
   ·refine ev_neg (by simp [e]) (ev_of_eq ih ?_); rw [decide_eq_decide, List.cons.injEq]; exact ⟨fun h => ⟨e, h⟩, fun h => h.2⟩
   ·refine ev_pos (by simp [e]) (ev_now ?_); symm; rw [decide_eq_false_iff_not, List.cons.injEq]; exact fun h => e h.1
 unfold laws_sameFlags.f
 by_cases hl : b.length = a.length
 ·exact ev_pos (by omega) (by simpa using key hl 0 (by omega))
 ·refine ev_neg (by omega) (ev_now ?_)
  have : a ≠ b := fun e => hl (by rw [e])
  simp [this]
theorem laws_sameLoop_same (R C : Int) (A D : List (List Bool)) (hA : Mo.Short A) (hD : Mo.Short D) : Ev (fun k => laws_sameLoop.f k R C A D R C A D) true := by
 have l1 : ∀ i, i ≤ D.length → Ev (fun k => laws_sameLoop.l1 k (i : Int) R C A D R C A D) true := by
  refine up D.length ?_ ?_
  ·refine Ev.step (fun _ => rfl) ?_
   simp only [laws_sameLoop.l1]
   exact ev_neg (by omega) (ev_now rfl)
  ·intro i hi ih
   have e1 : rd_L1 D (i : Int) = D[i] := by unfold rd_L1; simp [hi]
   have hx := hD.2 D[i] (List.getElem_mem _)
   have := hD.1
   refine Ev.step (fun _ => rfl) ?_
   simp only [laws_sameLoop.l1]
   refine ev_pos (by omega) (ev_pos (by omega) (ev_pos (by omega) ?_))
   rw [e1, w64s (by omega)]
   exact Ev.bind (laws_sameFlags_ev _ _ (by omega)) (ev_pos (by simp) ih)
 have l0 : ∀ i, i ≤ A.length → Ev (fun k => laws_sameLoop.l0 k (i : Int) R C A D R C A D) true := by
  refine up A.length ?_ ?_
  ·refine Ev.step (fun _ => rfl) ?_
   simp only [laws_sameLoop.l0]
   exact ev_neg (by omega) (l1 0 (by omega))
  ·intro i hi ih
   have e1 : rd_L1 A (i : Int) = A[i] := by unfold rd_L1; simp [hi]
   have hx := hA.2 A[i] (List.getElem_mem _)
   have := hA.1
   refine Ev.step (fun _ => rfl) ?_
   simp only [laws_sameLoop.l0]
   refine ev_pos (by omega) (ev_pos (by omega) (ev_pos (by omega) ?_))
   rw [e1, w64s (by omega)]
   exact Ev.bind (laws_sameFlags_ev _ _ (by omega)) (ev_pos (by simp) ih)
 unfold laws_sameLoop.f
 refine ev_pos rfl (ev_pos rfl (ev_pos rfl (Ev.step (fun _ => rfl) ?_)))
 simp only [laws_sameLoop.j0]
 exact ev_neg (by simp) (l0 0 (by omega))
theorem impl_LoopAround_g (R C : Nat) (hR : R ≤ 4) (hC : C ≤ 4) (l : List Bool) (hl : l.length = R * C) (y x : Nat) (hy : y ≤ R + 1) (hx : x ≤ C + 1) :
  impl_LoopAround.g (R : Int) (C : Int) l ((y : Int) - 1) ((x : Int) - 1) = some (Mo.jn R C l y x) := by
 unfold impl_LoopAround.g
 by_cases h1 : 0 < y
 ·rw [if_pos (by omega)]
  by_cases h2 : y ≤ R
  ·rw [if_pos (by omega)]
   by_cases h3 : 0 < x
   ·rw [if_pos (by omega)]
    by_cases h4 : x ≤ C
    ·rw [if_pos (by omega)]
     have e1 : ((y : Int) - 1) = ((y - 1 : Nat) : Int) := by omega
     have e2 : ((x : Int) - 1) = ((x - 1 : Nat) : Int) := by omega
     have hlt := Mo.ix_lt (r := y - 1) (R := R) (C := C) (c := x - 1) (by omega) (by omega)
     rw [e1, e2, Mo.ix (y - 1) C (x - 1) (by omega) hC (by omega), if_pos (by omega), if_pos (by omega), rdOf_nat false l _ (by omega)]
     unfold Mo.jn
     rw [decide_eq_true (by omega)]
     simp [hl, hlt]
    ·rw [if_neg (by omega), Mo.jn_out (by omega)]
   ·rw [if_neg (by omega), Mo.jn_out (by omega)]
  ·rw [if_neg (by omega), Mo.jn_out (by omega)]
 ·rw [if_neg (by omega), Mo.jn_out (by omega)]
theorem impl_LoopAround_ev (R C : Int) (l : List Bool) (hl0 : l.length ≤ 1048576) : Ev (fun k => impl_LoopAround.f k R C l) (Mo.around R C l) := by
 have hbad : impl_LoopAround.bad R C l = !decide (Mo.Around R C l) := by
  unfold impl_LoopAround.bad
  by_cases h1 : R < 1
  ·rw [if_pos h1, decide_eq_false (fun hh => by have := hh.1; omega)]; rfl
  ·rw [if_neg h1]
   by_cases h2 : R > 4
   ·rw [if_pos h2, decide_eq_false (fun hh => by have := hh.1; omega)]; rfl
   ·rw [if_neg h2]
    by_cases h3 : C < 1
    ·rw [if_pos h3, decide_eq_false (fun hh => by have := hh.2.1; omega)]; rfl
    ·rw [if_neg h3]
     by_cases h4 : C > 4
     ·rw [if_pos h4, decide_eq_false (fun hh => by have := hh.2.1; omega)]; rfl
     ·rw [if_neg h4]
      have hw : wrap64 (R * C) = R * C := by
       obtain ⟨R, rfl⟩ := Int.eq_ofNat_of_zero_le (show 0 ≤ R by omega)
       obtain ⟨C, rfl⟩ := Int.eq_ofNat_of_zero_le (show 0 ≤ C by omega)
       have := Mo.ix0 R C (by omega) (by omega)
       simpa using this
      rw [hw]
      by_cases h5 : (l.length : Int) = R * C
      ·have e : ((l.length : Int) != R * C) = false := by simp [h5]
       rw [e, decide_eq_true (show Mo.Around R C l from ⟨⟨by omega, by omega⟩, ⟨by omega, by omega⟩, h5⟩)]; rfl
      ·have e : ((l.length : Int) != R * C) = true := by simpa using h5
       rw [e, decide_eq_false (fun hh => h5 hh.2.2)]; rfl
 unfold impl_LoopAround.f
 rw [hbad]
 by_cases h : Mo.Around R C l
 ·refine ev_neg (by simpa using h) ?_
  obtain ⟨h1, h2, h3⟩ := h
  obtain ⟨R, rfl⟩ := Int.eq_ofNat_of_zero_le (show 0 ≤ R by omega)
  obtain ⟨C, rfl⟩ := Int.eq_ofNat_of_zero_le (show 0 ≤ C by omega)
  have hl : l.length = R * C := by
   have : (R : Int) * (C : Int) = ((R * C : Nat) : Int) := by simp
   omega
  rw [Mo.around_pos (by omega) (by omega) hl]
  have wR : Unit → wrap64 ((R : Int) + 1) = (R : Int) + 1 := fun _ => w64 (by omega) (by omega)
  have wC : Unit → wrap64 ((C : Int) + 1) = (C : Int) + 1 := fun _ => w64 (by omega) (by omega)
  have l3 : ∀ (c : Nat), c ≤ C → ∀ ys xs res, xs.length ≤ 5 → Ev (fun k => impl_LoopAround.l2 k (R : Int) (C : Int) l ((c + 1 : Nat) : Int) ys (xs ++ [(List.range R).map (Mo.arD R C l c)])) res →
    ∀ r, r ≤ R → Ev (fun k => impl_LoopAround.l3 k (R : Int) (C : Int) l (c : Int) ((List.range r).map (Mo.arD R C l c)) (r : Int) ys xs) res := by
   intro c hc ys xs res hx hgo
   refine up R ?_ ?_
   ·refine Ev.step (fun _ => rfl) ?_
    simp only [impl_LoopAround.l3]
    rw [w64s (n := c) (by omega)]
    exact ev_neg (by omega) (ev_pos (by omega) hgo)
   ·intro r hr ih
    have g1 := impl_LoopAround_g R C (by omega) (by omega) l hl (r + 1) c (by omega) (by omega)
    have g2 := impl_LoopAround_g R C (by omega) (by omega) l hl (r + 1) (c + 1) (by omega) (by omega)
    have e1 : (((r + 1 : Nat) : Int) - 1) = (r : Int) := by omega
    have e2 : (((c + 1 : Nat) : Int) - 1) = (c : Int) := by omega
    rw [e1] at g1 g2
    rw [e2] at g2
    refine Ev.step (fun _ => rfl) ?_
    simp only [impl_LoopAround.l3]
    rw [w64s (n := r) (by omega), w64 (n := (c : Int) - 1) (by omega) (by omega)]
    refine ev_pos (by omega) (ev_bindc g1 (ev_bindc g2 (ev_pos (by simp; omega) ?_)))
    have e : (List.range r).map (Mo.arD R C l c) ++ [Mo.jn R C l (r + 1) c != Mo.jn R C l (r + 1) (c + 1)] = (List.range (r + 1)).map (Mo.arD R C l c) := by
     rw [List.range_succ, List.map_append, ← Mo.arD_jn l hr hc]; rfl
    rw [e]; exact ih
  have l1 : ∀ (r : Nat), r ≤ R → ∀ xs res, xs.length ≤ 5 → Ev (fun k => impl_LoopAround.l0 k (R : Int) (C : Int) l ((r + 1 : Nat) : Int) (xs ++ [(List.range C).map (Mo.arA R C l r)])) res →
    ∀ c, c ≤ C → Ev (fun k => impl_LoopAround.l1 k (R : Int) (C : Int) l (r : Int) ((List.range c).map (Mo.arA R C l r)) (c : Int) xs) res := by
   intro r hr xs res hx hgo
   refine up C ?_ ?_
   ·refine Ev.step (fun _ => rfl) ?_
    simp only [impl_LoopAround.l1]
    rw [w64s (n := r) (by omega)]
    exact ev_neg (by omega) (ev_pos (by omega) hgo)
   ·intro c hc ih
    have g1 := impl_LoopAround_g R C (by omega) (by omega) l hl r (c + 1) (by omega) (by omega)
    have g2 := impl_LoopAround_g R C (by omega) (by omega) l hl (r + 1) (c + 1) (by omega) (by omega)
    have e1 : (((r + 1 : Nat) : Int) - 1) = (r : Int) := by omega
    have e2 : (((c + 1 : Nat) : Int) - 1) = (c : Int) := by omega
    rw [e1, e2] at g2
    rw [e2] at g1
    refine Ev.step (fun _ => rfl) ?_
    simp only [impl_LoopAround.l1]
    rw [w64s (n := c) (by omega), w64 (n := (r : Int) - 1) (by omega) (by omega)]
    refine ev_pos (by omega) (ev_bindc g1 (ev_bindc g2 (ev_pos (by simp; omega) ?_)))
    have e : (List.range c).map (Mo.arA R C l r) ++ [Mo.jn R C l r (c + 1) != Mo.jn R C l (r + 1) (c + 1)] = (List.range (c + 1)).map (Mo.arA R C l r) := by
     rw [List.range_succ, List.map_append, ← Mo.arA_jn l hr hc]; rfl
    rw [e]; exact ih
  have downs : ∀ ys, ∀ c, c ≤ C + 1 → Ev (fun k => impl_LoopAround.l2 k (R : Int) (C : Int) l (c : Int) ys ((List.range c).map fun i => (List.range R).map (Mo.arD R C l i))) ((R : Int), (C : Int), ys, Mo.mk (C + 1) R (Mo.arD R C l)) := by
   intro ys
   refine up (C + 1) ?_ ?_
   ·refine Ev.step (fun _ => rfl) ?_
    simp only [impl_LoopAround.l2]
    rw [wC ()]
    exact ev_neg (by omega) (ev_now rfl)
   ·intro c hc ih
    refine Ev.step (fun _ => rfl) ?_
    simp only [impl_LoopAround.l2]
    rw [wC ()]
    refine ev_pos (by omega) ?_
    refine l3 c (by omega) ys _ _ (by simp; omega) ?_ 0 (by omega)
    have e : ((List.range c).map fun i => (List.range R).map (Mo.arD R C l i)) ++ [(List.range R).map (Mo.arD R C l c)] = (List.range (c + 1)).map fun i => (List.range R).map (Mo.arD R C l i) := by
     rw [List.range_succ, List.map_append]; rfl
    rw [e]; exact ih
  have rows : ∀ r, r ≤ R + 1 → Ev (fun k => impl_LoopAround.l0 k (R : Int) (C : Int) l (r : Int) ((List.range r).map fun i => (List.range C).map (Mo.arA R C l i))) ((R : Int), (C : Int), Mo.mk (R + 1) C (Mo.arA R C l), Mo.mk (C + 1) R (Mo.arD R C l)) := by
   refine up (R + 1) ?_ ?_
   ·refine Ev.step (fun _ => rfl) ?_
    simp only [impl_LoopAround.l0]
    rw [wR ()]
    exact ev_neg (by omega) (downs _ 0 (by omega))
   ·intro r hr ih
    refine Ev.step (fun _ => rfl) ?_
    simp only [impl_LoopAround.l0]
    rw [wR ()]
    refine ev_pos (by omega) ?_
    refine l1 r (by omega) _ _ (by simp; omega) ?_ 0 (by omega)
    have e : ((List.range r).map fun i => (List.range C).map (Mo.arA R C l i)) ++ [(List.range C).map (Mo.arA R C l r)] = (List.range (r + 1)).map fun i => (List.range C).map (Mo.arA R C l i) := by
     rw [List.range_succ, List.map_append]; rfl
    rw [e]; exact ih
  exact rows 0 (by omega)
 ·refine ev_pos (by simpa using h) (ev_now ?_)
  unfold Mo.around
  rw [if_neg h]
theorem insd_step {R C r c : Nat} (D : List (List Bool)) (hc : c < C) :
  ((List.range (r * C + c)).map fun i => Mo.xs (i % C + 1) (fun c => Mo.ga D c (i / C))) ++ [Mo.xs (c + 1) (fun i => Mo.ga D i r)] = (List.range (r * C + (c + 1))).map fun i => Mo.xs (i % C + 1) (fun c => Mo.ga D c (i / C)) := by
 have h1 : (r * C + c) / C = r := by
  rw [Nat.mul_comm, Nat.mul_add_div (by omega), Nat.div_eq_of_lt hc]; rfl
 have h2 : (r * C + c) % C = c := by
  rw [Nat.mul_comm, Nat.mul_add_mod, Nat.mod_eq_of_lt hc]
 rw [← Nat.add_assoc, List.range_succ, List.map_append]
 congr 1
 simp only [List.map_cons, List.map_nil, h1, h2]
theorem impl_LoopInside_ev (R C : Int) (A D : List (List Bool)) : ∃ b, (b = true ↔ Mo.FieldOk R C A D ∧ Mo.Closed R.toNat C.toNat A D) ∧ Ev (fun k => impl_LoopInside.f k R C A D) (if b = true then Mo.insd R.toNat C.toNat D else []) := by
 obtain ⟨b, hb, hbi⟩ := impl_LoopClosed_ev R C A D
 refine ⟨b, hbi, ?_⟩
 unfold impl_LoopInside.f
 refine Ev.bind hb ?_
 cases b with
 | false => exact ev_neg (by simp) (ev_now rfl)
 | true =>
  refine ev_pos rfl ?_
  obtain ⟨R, C, rfl, rfl, hf⟩ := (hbi.1 rfl).1.fld
  simp only [Int.toNat_natCast, if_true]
  have hR := hf.hR; have hC := hf.hC; have lD := hf.lD
  have l0 : ∀ r, r ≤ R → Ev (fun k => impl_LoopInside.l0 k ((List.range (r * C)).map fun i => Mo.xs (i % C + 1) (fun c => Mo.ga D c (i / C))) (R : Int) (r : Int) (R : Int) (C : Int) A D) (Mo.insd R C D) := by
   refine up R ?_ ?_
   ·refine Ev.step (fun _ => rfl) ?_
    simp only [impl_LoopInside.l0]
    exact ev_neg (by omega) (ev_now rfl)
   ·intro r hr ih
    have hrc : r * C ≤ 4 * 4 := Nat.mul_le_mul (by omega) (by omega)
    have l1 : ∀ c, c ≤ C → Ev (fun k => impl_LoopInside.l1 k ((List.range (r * C + c)).map fun i => Mo.xs (i % C + 1) (fun c => Mo.ga D c (i / C))) (r : Int) (Mo.xs c (fun i => Mo.ga D i r)) (R : Int) (r : Int) (C : Int) (c : Int) (R : Int) (C : Int) A D) (Mo.insd R C D) := by
     refine up C ?_ ?_
     ·refine Ev.step (fun _ => rfl) ?_
      simp only [impl_LoopInside.l1]
      refine ev_neg (by omega) ?_
      rw [w64s (by omega), ← Nat.succ_mul]; exact ih
     ·intro c hc ih1
      have rD := hf.rD c (by omega)
      have eD : rd_L1 D (c : Int) = D.getD c [] := rfl
      have gD : rdOf false (D.getD c []) (r : Int) = Mo.ga D c r := rfl
      refine Ev.step (fun _ => rfl) ?_
      simp only [impl_LoopInside.l1]
      rw [eD, gD, w64s (by omega)]
      refine ev_pos (by omega) (ev_pos (by omega) (ev_pos (by omega) (ev_pos (by omega) (ev_pos (by omega) (ev_pos (by simp; omega) ?_)))))
      have := insd_step (R := R) (r := r) D hc
      rw [Mo.xs] at this ih1
      rw [this]; exact ih1
    refine Ev.step (fun _ => rfl) ?_
    simp only [impl_LoopInside.l0]
    exact ev_pos (by omega) (l1 0 (by omega))
  have := l0 0 (by omega)
  simpa using this
theorem spec_LoopInside_ev (R C : Int) (A D : List (List Bool)) : ∃ b, (b = true ↔ Mo.FieldOk R C A D ∧ Mo.Closed R.toNat C.toNat A D) ∧ Ev (fun k => spec_LoopInside.f k R C A D) (if b = true then Mo.insd R.toNat C.toNat D else []) := by
 obtain ⟨b, hb, hbi⟩ := spec_LoopClosed_ev R C A D
 refine ⟨b, hbi, ?_⟩
 unfold spec_LoopInside.f
 refine ev_some (Ev.bind hb ?_)
 cases b with
 | false => exact ev_neg (by simp) (ev_now rfl)
 | true =>
  refine ev_pos rfl ?_
  obtain ⟨R, C, rfl, rfl, hf⟩ := (hbi.1 rfl).1.fld
  simp only [Int.toNat_natCast, if_true]
  have hR := hf.hR; have hC := hf.hC; have lD := hf.lD
  have l0 : ∀ r, r ≤ R → Ev (fun k => spec_LoopInside.l0 k ((List.range (r * C)).map fun i => Mo.xs (i % C + 1) (fun c => Mo.ga D c (i / C))) (r : Int) (R : Int) (C : Int) A D) (Mo.insd R C D) := by
   refine up R ?_ ?_
   ·refine Ev.step (fun _ => rfl) ?_
    simp only [spec_LoopInside.l0]
    exact ev_neg (by omega) (ev_now rfl)
   ·intro r hr ih
    have hrc : r * C ≤ 4 * 4 := Nat.mul_le_mul (by omega) (by omega)
    have l1 : ∀ c, c ≤ C → Ev (fun k => spec_LoopInside.l1 k ((List.range (r * C + c)).map fun i => Mo.xs (i % C + 1) (fun c => Mo.ga D c (i / C))) (r : Int) (Mo.xs c (fun i => Mo.ga D i r)) (c : Int) (R : Int) (C : Int) A D) (Mo.insd R C D) := by
     refine up C ?_ ?_
     ·refine Ev.step (fun _ => rfl) ?_
      simp only [spec_LoopInside.l1]
      refine ev_neg (by omega) ?_
      rw [w64s (by omega), ← Nat.succ_mul]; exact ih
     ·intro c hc ih1
      have rD := hf.rD c (by omega)
      have eD : rd_L1 D (c : Int) = D.getD c [] := rfl
      have gD : rdOf false (D.getD c []) (r : Int) = Mo.ga D c r := rfl
      have this := insd_step (R := R) (r := r) D hc
      refine Ev.step (fun _ => rfl) ?_
      simp only [spec_LoopInside.l1]
      rw [eD, gD, w64s (by omega)]
      refine ev_pos (by omega) (ev_pos (by omega) (ev_pos (by omega) (ev_pos (by omega) (ev_pos (by omega) ?_))))
      rw [Mo.xs] at this ih1
      cases hg : Mo.ga D c r with
      | true =>
       rw [hg, Bool.xor_true] at this ih1
       refine ev_pos rfl (ev_pos (by simp; omega) ?_)
       rw [this]; exact ih1
      | false =>
       rw [hg, Bool.xor_false] at this ih1
       refine ev_neg (by simp) (ev_pos (by simp; omega) ?_)
       rw [this]; exact ih1
    refine Ev.step (fun _ => rfl) ?_
    simp only [spec_LoopInside.l0]
    exact ev_pos (by omega) (l1 0 (by omega))
  have := l0 0 (by omega)
  simpa using this
theorem spec_DrawLoopInside_ev (l : List Int) (hw : ∀ x ∈ l, (Lit.int .u8 x).wf = true) : ∃ R C A D, Ev (fun k => spec_DrawLoopInside.f k l) (R, C, A, D) ∧ Drawn A D := by
 obtain ⟨b, hb, hB⟩ := spec_l20Open_ev l hw
 obtain ⟨R, C, A, D, p', he, _, _, h⟩ := spec_l20Loop_ev b 0 9 hB (by omega) (by omega) (by omega)
 unfold spec_DrawLoopInside.f
 exact ⟨R, C, A, D, ev_bindc hb (Ev.bind he (ev_now rfl)), h⟩
end XFnLoopInside
open XFnLoopInside
theorem FnLoopInside : laws_FnLoopInside.Pure := by
 intro l _ _ hw
 refine Ev.rounds (r := true) ?_
 unfold laws_FnLoopInside.f
 by_cases hl : (l.length : Int) > 1048576
 ·exact ev_pos hl (ev_now rfl)
 refine ev_neg hl ?_
 obtain ⟨R, C, A, D, hd, hdr⟩ := spec_DrawLoopInside_ev l hw
 obtain ⟨b, hbi, hi⟩ := impl_LoopInside_ev R C A D
 obtain ⟨b', hbi', hi'⟩ := spec_LoopInside_ev R C A D
 obtain ⟨b2, hb2, hbi2⟩ := spec_LoopClosed_ev R C A D
 have e : b' = b := by cases b <;> cases b' <;> simp_all
 have e2 : b2 = b := by cases b <;> cases b2 <;> simp_all
 subst e e2
 cases b2 with
 | false =>
  rw [if_neg (by simp)] at hi hi'
  exact Ev.bind hd (Ev.bind hi (Ev.bind hi' (Ev.bind (laws_sameFlags_ev [] [] (by simp)) (ev_pos (by simp) (Ev.bind hb2 (ev_neg (by simp) (ev_pos rfl (Ev.bind laws_alive_ev (ev_now rfl)))))))))
 | true =>
  rw [if_pos rfl] at hi hi'
  obtain ⟨h1, h2⟩ := hbi.1 rfl
  obtain ⟨R, C, rfl, rfl, hf⟩ := h1.fld
  simp only [Int.toNat_natCast] at hi hi' h2
  have hR := hf.hR; have hC := hf.hC
  have hlen : (Mo.insd R C D).length ≤ 4 * 4 := by rw [Mo.insd_length]; exact Nat.mul_le_mul hR.2 hC.2
  refine Ev.bind hd (Ev.bind hi (Ev.bind hi' (Ev.bind (laws_sameFlags_ev _ _ (by omega)) (ev_pos (by simp) (Ev.bind hb2 (ev_pos rfl ?_))))))
  obtain ⟨j0, hj0, hj1⟩ := hf.insd_some h2.evenP h2.1
  obtain ⟨e1, e2⟩ := hf.around_insd h2.evenP
  have har := Mo.around_pos (R := R) (C := C) hR hC (Mo.insd_length R C D)
  rw [e1, e2] at har
  have sA : Mo.Short A := ⟨by have := hf.lA; omega, fun x hx => by have := hf.lens.1 x hx; omega⟩
  have sD : Mo.Short D := ⟨by have := hf.lD; omega, fun x hx => by have := hf.lens.2 x hx; omega⟩
  have key : ∀ i, i ≤ (Mo.insd R C D).length → ∀ fl : Bool, (fl = true ∨ i ≤ j0) → Ev (fun k => laws_FnLoopInside.l0 k (Mo.insd R C D) fl (i : Int) (R : Int) (C : Int) A D) true := by
   refine up (Mo.insd R C D).length ?_ ?_
   ·intro fl hfl
    have : fl = true := by
     rcases hfl with h | h
     ·exact h
     ·rw [Mo.insd_length] at h; omega
    subst this
    refine Ev.step (fun _ => rfl) ?_
    simp only [laws_FnLoopInside.l0]
    refine ev_neg (by omega) (ev_pos (by simp) (Ev.bind (impl_LoopAround_ev _ _ _ (by omega)) ?_))
    rw [har]
    exact Ev.bind (laws_sameLoop_same _ _ A D sA sD) (ev_now rfl)
   ·intro i hi ih fl hfl
    refine Ev.step (fun _ => rfl) ?_
    simp only [laws_FnLoopInside.l0]
    refine ev_pos (by omega) ?_
    rw [w64s (by omega)]
    cases fl with
    | true => exact ev_pos (by simp) (ih true (.inl rfl))
    | false =>
     have hij : i ≤ j0 := by
      rcases hfl with h | h
      ·cases h
      ·exact h
     refine ev_neg (by simp) (ev_pos (by omega) (ih _ ?_))
     by_cases e : i = j0
     ·subst e
      left
      rw [rdOf_nat false _ i hi]
      simpa [hi] using hj1
     ·right; omega
  exact key 0 (by omega) false (.inr (by omega))

end Go.Proofs.Ytdinbpfklikghaa.Pure
