/- RegionsValid: without its last cell a list is invalid, and with a region that does not exist, at every drawn list. No conditions. -/
import Derived.Test.YtinockknikfmgaaPFnRegionsValidx4
import Derived.Test.YtinockknikfmgaaMo
set_option linter.unusedSimpArgs false
set_option linter.unusedVariables false
set_option maxRecDepth 4000
namespace Go.Proofs.Ytinockknikfmgaa.Pure
open Go.RowKit Go.Proofs.Ytinockknikfmgaa.PFnRegionsValid Go.Proofs.Ytinockknikfmgaa.Pk Go.Proofs.Ytinockknikfmgaa.Mo Go.Proofs.YtinockknikfmgaaW.PrintWords Go.Proofs.YtinockknikfmgaaW.PrintLast

namespace XFnRegionsValid
theorem impl_sizeOk_eq (s : Int) : impl_sizeOk.f s = some (decide (Mo.SizeOk s)) := by
  unfold impl_sizeOk.f Mo.SizeOk
  by_cases h : s ≥ 2
  · rw [if_pos h]; simp [show (2 : Int) ≤ s from h]
  · rw [if_neg h]; simp [show ¬ (2 : Int) ≤ s from h]
theorem spec_l1In_eq (n lo hi : Int) : spec_l1In.f n lo hi = some (decide (lo ≤ n ∧ n ≤ hi)) := by
  unfold spec_l1In.f
  by_cases h : n ≥ lo
  · rw [if_pos h]; simp [show lo ≤ n from h]
  · rw [if_neg h]; simp [show ¬ lo ≤ n from h]
theorem impl_RegionsValid_ev (l : List Int) (s : Int) (hl : l.length ≤ 4611686018427387904) : Ev (fun k => impl_RegionsValid.f k l s) (decide (Mo.SqOk (s - 1) l s)) := by
  have key : ∀ i, i ≤ l.length → Ev (fun k => impl_RegionsValid.l0 k s l (l.length : Int) (i : Int)) (decide (Mo.AllIn 0 (s - 1) (l.drop i))) := by
    refine up l.length ?_ ?_
    · refine Ev.step (fun _ => rfl) ?_
      simp only [impl_RegionsValid.l0]
      refine ev_neg (by omega) (ev_now ?_)
      simp [Mo.AllIn.nil]
    · intro i hi ih
      refine Ev.step (fun _ => rfl) ?_
      simp only [impl_RegionsValid.l0]
      refine ev_pos (by omega) (ev_pos (by omega) (ev_pos (by omega) ?_))
      rw [rd_nat l i hi, w64s (by omega), drop_step l i hi]
      by_cases e : l[i] < 0
      · refine ev_pos e (ev_now ?_)
        symm; rw [decide_eq_false_iff_not, Mo.AllIn.cons]; omega
      · refine ev_neg e ?_
        by_cases e' : l[i] ≥ s
        · refine ev_pos e' (ev_now ?_)
          symm; rw [decide_eq_false_iff_not, Mo.AllIn.cons]; omega
        · refine ev_neg e' (ev_of_eq ih ?_)
          rw [decide_eq_decide, Mo.AllIn.cons]
          exact ⟨fun h => ⟨by omega, h⟩, fun h => h.2⟩
  unfold impl_RegionsValid.f
  refine ev_bindc (impl_sizeOk_eq s) ?_
  by_cases hs : Mo.SizeOk s
  · have hs' := hs
    unfold Mo.SizeOk at hs'
    refine ev_pos (by simpa using hs) (Ev.step (fun _ => rfl) ?_)
    simp only [impl_RegionsValid.j0]
    have hw : wrap64 (s * s) = s * s := by rcases hs.cases with rfl | rfl | rfl <;> exact w64 (by decide) (by decide)
    rw [hw]
    by_cases hn : (l.length : Int) = s * s
    · refine ev_neg (by simp [hn]) (ev_of_eq (key 0 (by omega)) ?_)
      rw [decide_eq_decide]
      exact ⟨fun h => ⟨hs, hn, by simpa using h⟩, fun h => by simpa using h.2.2⟩
    · refine ev_pos (by simp [hn]) (ev_now ?_)
      symm; rw [decide_eq_false_iff_not]; exact fun h => hn h.2.1
  · refine ev_neg (by simpa using hs) (Ev.step (fun _ => rfl) ?_)
    simp only [impl_RegionsValid.j0]
    refine ev_pos trivial (ev_now ?_)
    symm; rw [decide_eq_false_iff_not]; exact fun h => hs h.1
theorem spec_RegionsValid_ev (l : List Int) (s : Int) (hl : l.length ≤ 4611686018427387904) : Ev (fun k => spec_RegionsValid.f k l s) (decide (Mo.SqOk (s - 1) l s)) := by
  by_cases hs : Mo.SizeOk s
  · have hs' := hs
    unfold Mo.SizeOk at hs'
    have hw : wrap64 (s * s) = s * s := by rcases hs.cases with rfl | rfl | rfl <;> exact w64 (by decide) (by decide)
    have hw1 : wrap64 (s - 1) = s - 1 := w64 (by omega) (by omega)
    have key : ∀ i, i ≤ l.length → Ev (fun k => spec_RegionsValid.l0 k l s (i : Int)) (decide ((l.length : Int) = s * s ∧ Mo.AllIn 0 (s - 1) (l.drop i))) := by
      refine up l.length ?_ ?_
      · refine Ev.step (fun _ => rfl) ?_
        simp only [spec_RegionsValid.l0]
        refine ev_neg (by omega) (ev_bindc (spec_l1In_eq _ _ _) (ev_pos (by simpa using hs') (ev_now ?_)))
        simp [Mo.AllIn.nil, hw]
        exact (Bool.beq_eq_decide_eq _ _)
      · intro i hi ih
        refine Ev.step (fun _ => rfl) ?_
        simp only [spec_RegionsValid.l0]
        refine ev_pos (by omega) (ev_pos (by omega) (ev_bindc (spec_l1In_eq _ _ _) ?_))
        rw [rd_nat l i hi, w64s (by omega), drop_step l i hi, hw1]
        by_cases e : 0 ≤ l[i] ∧ l[i] ≤ s - 1
        · refine ev_pos (by simpa using e) (ev_of_eq ih ?_)
          rw [decide_eq_decide, Mo.AllIn.cons]
          exact ⟨fun h => ⟨h.1, e, h.2⟩, fun h => ⟨h.1, h.2.2⟩⟩
        · refine ev_neg (by simpa using e) (ev_now ?_)
          symm; rw [decide_eq_false_iff_not, Mo.AllIn.cons]; exact fun h => e h.2.1
    unfold spec_RegionsValid.f
    refine ev_of_eq (key 0 (by omega)) ?_
    rw [decide_eq_decide]
    exact ⟨fun h => ⟨hs, by simpa using h⟩, fun h => by simpa using h.2⟩
  · have key : ∀ i, i ≤ l.length → Ev (fun k => spec_RegionsValid.l0 k l s (i : Int)) false := by
      refine up l.length ?_ ?_
      · refine Ev.step (fun _ => rfl) ?_
        simp only [spec_RegionsValid.l0]
        exact ev_neg (by omega) (ev_bindc (spec_l1In_eq _ _ _) (ev_neg (by simpa [Mo.SizeOk] using hs) (ev_now rfl)))
      · intro i hi ih
        refine Ev.step (fun _ => rfl) ?_
        simp only [spec_RegionsValid.l0]
        refine ev_pos (by omega) (ev_pos (by omega) (ev_bindc (spec_l1In_eq _ _ _) ?_))
        rw [w64s (by omega)]
        by_cases e : decide (0 ≤ rd l (i : Int) ∧ rd l (i : Int) ≤ wrap64 (s - 1)) = true
        · exact ev_pos e ih
        · exact ev_neg e (ev_now rfl)
    unfold spec_RegionsValid.f
    refine ev_of_eq (key 0 (by omega)) ?_
    symm; rw [decide_eq_false_iff_not]; exact fun h => hs h.1
theorem laws_alive_ev : Ev (fun k => laws_alive.f k) true := Ev.of laws_alive.mono (k := 12) (by decide +kernel)
theorem spec_BoxRegions_ev : Ev (fun k => spec_BoxRegions.f k) Mo.boxes := Ev.of spec_BoxRegions.mono (k := 20) (by decide +kernel)
/-- A code, as the reader of draws takes it. -/
def Bytes (b : List Int) : Prop := b.length ≤ 2000 ∧ ∀ x ∈ b, 0 ≤ x ∧ x ≤ 255
theorem spec_l20Open_ev (l : List Int) (hw : ∀ x ∈ l, (Lit.int .u8 x).wf = true) : ∃ b, spec_l20Open.f l = some (b, 0) ∧ Bytes b := by
  unfold spec_l20Open.f
  by_cases h : (l.length : Int) > 2000
  · refine ⟨l.take 2000, ?_, ?_, fun x hx => wf_u8.1 (hw x (List.mem_of_mem_take hx))⟩
    · rw [if_pos h, if_pos (by omega)]
    · simp; omega
  · exact ⟨l, by rw [if_neg h], by omega, fun x hx => wf_u8.1 (hw x hx)⟩
theorem spec_l20Rd_pick_ev (b : List Int) (p n : Int) (hb : Bytes b) (h0 : 0 ≤ p) (hp : p ≤ 1000000000) (hn : n ≤ 1000000000) :
    ∃ r, Ev (fun k => spec_l20Rd_pick.f k b p n) (r, p + 1) ∧ 0 ≤ r ∧ (1 ≤ n → r < n) ∧ (n < 1 → r = 0) := by
  unfold spec_l20Rd_pick.f
  rw [w64 (n := p + 1) (by omega) (by omega)]
  by_cases hn1 : n < 1
  · refine ⟨0, ev_pos hn1 (Ev.step (fun _ => rfl) ?_), by omega, by omega, fun _ => rfl⟩
    simp only [spec_l20Rd_pick.j0]
    exact ev_pos trivial (ev_now rfl)
  · by_cases hl : b.length = 0
    · refine ⟨0, ev_neg hn1 (Ev.step (fun _ => rfl) ?_), by omega, by omega, by omega⟩
      simp only [spec_l20Rd_pick.j0]
      exact ev_pos (by simp [hl]) (ev_now rfl)
    · have hmem : ∀ i : Int, 0 ≤ i → i < b.length → 0 ≤ rd b i ∧ rd b i ≤ 255 := fun i h h' => hb.2 _ (rd_mem b i h h')
      have hne : ¬ (((b.length : Int) == 0) = true) := fun h => hl (by have := eq_of_beq h; omega)
      have hp1 : wrap64 (p + 1 - 1) = p := by rw [w64 (by omega) (by omega)]; omega
      by_cases hk : p < b.length
      · have hr := hmem p h0 hk
        refine ⟨Int.tmod (wrap64 (rd b p)) n, ev_neg hn1 (Ev.step (fun _ => rfl) ?_), ?_, ?_, by omega⟩
        · simp only [spec_l20Rd_pick.j0]
          rw [hp1]
          exact ev_neg hne (ev_pos hk (ev_pos h0 (ev_neg (by omega) (ev_now rfl))))
        · rw [w64 (by omega) (by omega), Int.tmod_eq_emod_of_nonneg (by omega)]; exact Int.emod_nonneg _ (by omega)
        · intro _; rw [w64 (by omega) (by omega), Int.tmod_eq_emod_of_nonneg (by omega)]; exact Int.emod_lt_of_pos _ (by omega)
      · have hL : (0 : Int) < b.length := by omega
        have e7 : wrap64 (wrap64 (p * 7) + 3) = p * 7 + 3 := by rw [w64 (n := p * 7) (by omega) (by omega), w64 (by omega) (by omega)]
        have m1 : Int.tmod p b.length = p % b.length := Int.tmod_eq_emod_of_nonneg h0
        have m2 : Int.tmod (p * 7 + 3) b.length = (p * 7 + 3) % b.length := Int.tmod_eq_emod_of_nonneg (by omega)
        have a1 := Int.emod_nonneg p (b := (b.length : Int)) (by omega)
        have a2 := Int.emod_lt_of_pos p hL
        have b1 := Int.emod_nonneg (p * 7 + 3) (b := (b.length : Int)) (by omega)
        have b2 := Int.emod_lt_of_pos (p * 7 + 3) hL
        have r1 := hmem _ a1 a2
        have r2 := hmem _ b1 b2
        have d0 : 0 ≤ Int.tdiv p b.length := by rw [Int.tdiv_eq_ediv_of_nonneg h0]; exact Int.ediv_nonneg h0 (by omega)
        have d1 : Int.tdiv p b.length ≤ p := by rw [Int.tdiv_eq_ediv_of_nonneg h0]; exact Int.ediv_le_self _ h0
        generalize hx : wrap64 (wrap64 (wrap64 (wrap64 (wrap64 (rd b (p % b.length)) * 131) + wrap64 (wrap64 (rd b ((p * 7 + 3) % b.length)) * 1117)) + wrap64 (p * 29)) + wrap64 (wrap64 (Int.tdiv p b.length) * 53)) = x
        have hx0 : 0 ≤ x ∧ x ≤ 100000000000 := by
          rw [← hx]
          rw [w64 (n := rd b (p % b.length)) (by omega) (by omega), w64 (n := rd b ((p * 7 + 3) % b.length)) (by omega) (by omega), w64 (n := Int.tdiv p b.length) (by omega) (by omega)]
          rw [w64 (n := rd b (p % b.length) * 131) (by omega) (by omega), w64 (n := rd b ((p * 7 + 3) % b.length) * 1117) (by omega) (by omega), w64 (n := p * 29) (by omega) (by omega), w64 (n := Int.tdiv p b.length * 53) (by omega) (by omega)]
          rw [w64 (n := rd b (p % b.length) * 131 + rd b ((p * 7 + 3) % b.length) * 1117) (by omega) (by omega)]
          rw [w64 (n := rd b (p % b.length) * 131 + rd b ((p * 7 + 3) % b.length) * 1117 + p * 29) (by omega) (by omega)]
          rw [w64 (by omega) (by omega)]
          omega
        have hq : wrap64 (Int.tdiv x 64) = x / 64 := by rw [Int.tdiv_eq_ediv_of_nonneg hx0.1, w64 (by omega) (by omega)]
        have hz : 0 ≤ Go.bits .xor .i64 x (x / 64) := xor_nonneg _ _ (by omega) (by omega) (by omega) (by omega)
        refine ⟨Int.tmod (Go.bits .xor .i64 x (x / 64)) n, ev_neg hn1 (Ev.step (fun _ => rfl) ?_), ?_, ?_, by omega⟩
        · simp only [spec_l20Rd_pick.j0]
          rw [hp1, e7, m1, m2, hx, hq]
          exact ev_neg hne (ev_neg hk (ev_neg (by omega) (ev_pos a1 (ev_pos a2 (ev_pos b1 (ev_pos b2 (ev_neg (by omega) (ev_now rfl))))))))
        · rw [Int.tmod_eq_emod_of_nonneg hz]; exact Int.emod_nonneg _ (by omega)
        · intro _; rw [Int.tmod_eq_emod_of_nonneg hz]; exact Int.emod_lt_of_pos _ (by omega)
theorem spec_l20Rd_odd_ev (b : List Int) (p n : Int) (hb : Bytes b) (h0 : 0 ≤ p) (hp : p ≤ 1000000000) (hn : n ≤ 1000000000) :
    ∃ r p', Ev (fun k => spec_l20Rd_odd.f k b p n) (r, p') ∧ p ≤ p' ∧ p' ≤ p + 1 ∧ (n ≤ 0 → r = false ∧ p' = p) := by
  unfold spec_l20Rd_odd.f
  by_cases h : n > 0
  · obtain ⟨r, hr, _⟩ := spec_l20Rd_pick_ev b p n hb h0 hp hn
    exact ⟨_, _, ev_pos h (Ev.bind hr (ev_now rfl)), by omega, by omega, by omega⟩
  · exact ⟨_, _, ev_neg h (ev_now rfl), by omega, by omega, fun _ => ⟨rfl, rfl⟩⟩
theorem spec_l20Size_ev (b : List Int) (p n : Int) (hb : Bytes b) (h0 : 0 ≤ p) (hp : p ≤ 900000000) (hn : n ≤ 1000000000) :
    ∃ s p', Ev (fun k => spec_l20Size.f k b p n) (s, p') ∧ p ≤ p' ∧ p' ≤ p + 2 ∧ (-1 ≤ s ∧ s ≤ 5) ∧ (n ≤ 0 → Mo.SizeOk s) := by
  unfold spec_l20Size.f
  obtain ⟨r, p1, hr, h1, h2, h3⟩ := spec_l20Rd_odd_ev b p n hb h0 (by omega) hn
  cases r with
  | true =>
    obtain ⟨q, hq, q0, q1, _⟩ := spec_l20Rd_pick_ev b p1 3 hb (by omega) (by omega) (by omega)
    have q1 := q1 (by omega)
    have hc : q = 0 ∨ q = 1 ∨ q = 2 := by omega
    refine ⟨rd [1, 5, -1] q, p1 + 1, Ev.bind hr (ev_pos rfl (ev_some (Ev.bind hq (ev_pos q0 (ev_pos (by simpa using q1) (ev_now rfl)))))), by omega, by omega, ?_, fun h => ?_⟩
    · rcases hc with rfl | rfl | rfl <;> decide
    · exact absurd (h3 h).1 (by simp)
  | false =>
    obtain ⟨q, hq, q0, q1, _⟩ := spec_l20Rd_pick_ev b p1 5 hb (by omega) (by omega) (by omega)
    have q1 := q1 (by omega)
    have hc : q = 0 ∨ q = 1 ∨ q = 2 ∨ q = 3 ∨ q = 4 := by omega
    refine ⟨rd [2, 3, 3, 4, 4] q, p1 + 1, Ev.bind hr (ev_neg (by simp) (ev_some (Ev.bind hq (ev_pos q0 (ev_pos (by simpa using q1) (ev_now rfl)))))), by omega, by omega, ?_, fun h => ?_⟩
    · rcases hc with rfl | rfl | rfl | rfl | rfl <;> decide
    · rcases hc with rfl | rfl | rfl | rfl | rfl <;> decide
theorem spec_l20Regions_ev (b : List Int) (p n : Int) (hb : Bytes b) (h0 : 0 ≤ p) (hp : p ≤ 800000000) (hn : n ≤ 1000000000) :
    ∃ l s p', Ev (fun k => spec_l20Regions.f k b p n) (l, s, p') ∧ p ≤ p' ∧ p' ≤ p + 100 ∧ l.length ≤ 16 ∧ 3 ≤ l.length := by
  unfold spec_l20Regions.f
  obtain ⟨s, p1, hs, hp1, hp2, _, hsz⟩ := spec_l20Size_ev b p 0 hb h0 (by omega) (by omega)
  have hsz := hsz (by omega)
  have hsz' := hsz
  unfold Mo.SizeOk at hsz'
  have hw : wrap64 (s * s) = s * s := by rcases hsz.cases with rfl | rfl | rfl <;> exact w64 (by decide) (by decide)
  obtain ⟨N, hN⟩ : ∃ N : Nat, s * s = N := ⟨(s * s).toNat, by rcases hsz.cases with rfl | rfl | rfl <;> rfl⟩
  have hN4 : 4 ≤ N ∧ N ≤ 16 := by rcases hsz.cases with rfl | rfl | rfl <;> omega
  -- behind the list
  have j4 : ∀ (l : List Int) (q : Int), l.length ≤ 16 → 4 ≤ l.length → p1 ≤ q → q ≤ p1 + 80 →
      ∃ l' s' p', Ev (fun k => spec_l20Regions.j4 k n s l b q) (l', s', p') ∧ p ≤ p' ∧ p' ≤ p + 100 ∧ l'.length ≤ 16 ∧ 3 ≤ l'.length := by
    intro l q hl1 hl2 hq1 hq2
    obtain ⟨o, p2, ho, ho1, ho2, _⟩ := spec_l20Rd_odd_ev b q n hb (by omega) (by omega) hn
    cases o with
    | false =>
      refine ⟨l, s, p2, Ev.step (fun _ => rfl) ?_, by omega, by omega, hl1, by omega⟩
      simp only [spec_l20Regions.j4]
      exact Ev.bind ho (ev_neg (by simp) (ev_now rfl))
    | true =>
      obtain ⟨c, hc, c0, c1, _⟩ := spec_l20Rd_pick_ev b p2 3 hb (by omega) (by omega) (by omega)
      have c1 := c1 (by omega)
      by_cases e0 : c = 0
      · obtain ⟨i, hi, i0, i1, _⟩ := spec_l20Rd_pick_ev b (p2 + 1) (l.length : Int) hb (by omega) (by omega) (by omega)
        have i1 := i1 (by omega)
        obtain ⟨d, hd, d0, d1, _⟩ := spec_l20Rd_pick_ev b (p2 + 1 + 1) 2 hb (by omega) (by omega) (by omega)
        have d1 := d1 (by omega)
        refine ⟨l.set i.toNat (rd [-1, s] d), s, p2 + 1 + 1 + 1, Ev.step (fun _ => rfl) ?_, by omega, by omega, by simpa using hl1, by simp; omega⟩
        simp only [spec_l20Regions.j4]
        exact Ev.bind ho (ev_pos rfl (Ev.bind hc (ev_pos e0 (Ev.bind hi (ev_some (Ev.bind hd (ev_pos d0 (ev_pos (by simpa using d1) (ev_pos i0 (ev_pos i1 (ev_now rfl)))))))))))
      · by_cases e1 : c = 1
        · refine ⟨l.drop 1, s, p2 + 1, Ev.step (fun _ => rfl) ?_, by omega, by omega, by simp; omega, by simp; omega⟩
          simp only [spec_l20Regions.j4]
          exact Ev.bind ho (ev_pos rfl (Ev.bind hc (ev_neg e0 (ev_pos e1 (ev_pos (by omega) (ev_now rfl))))))
        · obtain ⟨s2, p3, hs2, hp3, hp4, _⟩ := spec_l20Size_ev b (p2 + 1) 1 hb (by omega) (by omega) (by omega)
          refine ⟨l, s2, p3, Ev.step (fun _ => rfl) ?_, by omega, by omega, hl1, by omega⟩
          simp only [spec_l20Regions.j4]
          exact Ev.bind ho (ev_pos rfl (Ev.bind hc (ev_neg e0 (ev_neg e1 (Ev.bind hs2 (ev_now rfl))))))
  have j3 : ∀ (l : List Int) (t : Bool) (q : Int), l.length ≤ 16 → 4 ≤ l.length → p1 ≤ q → q ≤ p1 + 80 →
      ∃ l' s' p', Ev (fun k => spec_l20Regions.j3 k n s l t b q) (l', s', p') ∧ p ≤ p' ∧ p' ≤ p + 100 ∧ l'.length ≤ 16 ∧ 3 ≤ l'.length := by
    intro l t q hl1 hl2 hq1 hq2
    cases t with
    | true =>
      obtain ⟨l', s', p', h, h'⟩ := j4 Mo.boxes q (by decide) (by decide) hq1 hq2
      refine ⟨l', s', p', Ev.step (fun _ => rfl) ?_, h'⟩
      simp only [spec_l20Regions.j3]
      exact ev_pos trivial (Ev.bind spec_BoxRegions_ev h)
    | false =>
      obtain ⟨l', s', p', h, h'⟩ := j4 l q hl1 hl2 hq1 hq2
      refine ⟨l', s', p', Ev.step (fun _ => rfl) ?_, h'⟩
      simp only [spec_l20Regions.j3]
      exact ev_neg (by simp) h
  have key : ∀ i, i ≤ N → ∀ (l : List Int) (q : Int), l.length = i → p1 ≤ q → q ≤ p1 + 4 * i →
      ∃ l' s' p', Ev (fun k => spec_l20Regions.l0 k n s l (i : Int) b q) (l', s', p') ∧ p ≤ p' ∧ p' ≤ p + 100 ∧ l'.length ≤ 16 ∧ 3 ≤ l'.length := by
    refine up N ?_ ?_
    · intro l q hl hq1 hq2
      by_cases e4 : s = 4
      · obtain ⟨c, hc, c0, c1, _⟩ := spec_l20Rd_pick_ev b q 3 hb (by omega) (by omega) (by omega)
        obtain ⟨l', s', p', h, h'⟩ := j3 l (c == 0) (q + 1) (by omega) (by omega) (by omega) (by omega)
        refine ⟨l', s', p', Ev.step (fun _ => rfl) ?_, h'⟩
        simp only [spec_l20Regions.l0]
        rw [hw, hN]
        exact ev_neg (by omega) (ev_pos e4 (Ev.bind hc h))
      · obtain ⟨l', s', p', h, h'⟩ := j3 l false q (by omega) (by omega) (by omega) (by omega)
        refine ⟨l', s', p', Ev.step (fun _ => rfl) ?_, h'⟩
        simp only [spec_l20Regions.l0]
        rw [hw, hN]
        exact ev_neg (by omega) (ev_neg e4 h)
    · intro i hi ih l q hl hq1 hq2
      have j2 : ∀ (v q2 : Int), p1 ≤ q2 → q2 ≤ p1 + 4 * i + 1 → ∃ l' s' p', Ev (fun k => spec_l20Regions.j2 k n s l (i : Int) v b q2) (l', s', p') ∧ p ≤ p' ∧ p' ≤ p + 100 ∧ l'.length ≤ 16 ∧ 3 ≤ l'.length := by
        intro v q2 h1 h2
        obtain ⟨c, hc, _⟩ := spec_l20Rd_pick_ev b q2 6 hb (by omega) (by omega) (by omega)
        by_cases e0 : c = 0
        · obtain ⟨d, hd, _⟩ := spec_l20Rd_pick_ev b (q2 + 1) s hb (by omega) (by omega) (by omega)
          obtain ⟨l', s', p', h, h'⟩ := ih (l ++ [d]) (q2 + 1 + 1) (by simp [hl]) (by omega) (by omega)
          refine ⟨l', s', p', Ev.step (fun _ => rfl) ?_, h'⟩
          simp only [spec_l20Regions.j2]
          rw [w64s (by omega)]
          exact Ev.bind hc (ev_pos e0 (Ev.bind hd (ev_pos (by omega) h)))
        · obtain ⟨l', s', p', h, h'⟩ := ih (l ++ [v]) (q2 + 1) (by simp [hl]) (by omega) (by omega)
          refine ⟨l', s', p', Ev.step (fun _ => rfl) ?_, h'⟩
          simp only [spec_l20Regions.j2]
          rw [w64s (by omega)]
          exact Ev.bind hc (ev_neg e0 (ev_pos (by omega) h))
      have j1 : ∀ (v : Int) (t : Bool) (q2 : Int), (t = true → 0 < i) → p1 ≤ q2 → q2 ≤ p1 + 4 * i + 1 → ∃ l' s' p', Ev (fun k => spec_l20Regions.j1 k n s l (i : Int) v t b q2) (l', s', p') ∧ p ≤ p' ∧ p' ≤ p + 100 ∧ l'.length ≤ 16 ∧ 3 ≤ l'.length := by
        intro v t q2 ht h1 h2
        cases t with
        | true =>
          have ht := ht rfl
          have hw1 : wrap64 ((i : Int) - 1) = (i : Int) - 1 := w64 (by omega) (by omega)
          obtain ⟨l', s', p', h, h'⟩ := j2 (rd l ((i : Int) - 1)) q2 h1 h2
          refine ⟨l', s', p', Ev.step (fun _ => rfl) ?_, h'⟩
          simp only [spec_l20Regions.j1]
          rw [hw1]
          exact ev_pos trivial (ev_pos (by omega) (ev_pos (by omega) h))
        | false =>
          obtain ⟨l', s', p', h, h'⟩ := j2 v q2 h1 h2
          refine ⟨l', s', p', Ev.step (fun _ => rfl) ?_, h'⟩
          simp only [spec_l20Regions.j1]
          exact ev_neg (by simp) h
      by_cases hi0 : (i : Int) > 0
      · obtain ⟨c, hc, _⟩ := spec_l20Rd_pick_ev b q 4 hb (by omega) (by omega) (by omega)
        obtain ⟨l', s', p', h, h'⟩ := j1 (wrap64 (Int.tdiv (i : Int) s)) (c == 0) (q + 1) (fun _ => by omega) (by omega) (by omega)
        refine ⟨l', s', p', Ev.step (fun _ => rfl) ?_, h'⟩
        simp only [spec_l20Regions.l0]
        rw [hw, hN]
        exact ev_pos (by omega) (ev_neg (by omega) (ev_pos hi0 (Ev.bind hc h)))
      · obtain ⟨l', s', p', h, h'⟩ := j1 (wrap64 (Int.tdiv (i : Int) s)) false q (fun h => by simp at h) (by omega) (by omega)
        refine ⟨l', s', p', Ev.step (fun _ => rfl) ?_, h'⟩
        simp only [spec_l20Regions.l0]
        rw [hw, hN]
        exact ev_pos (by omega) (ev_neg (by omega) (ev_neg hi0 h))
  obtain ⟨l', s', p', h, h'⟩ := key 0 (by omega) [] p1 rfl (by omega) (by omega)
  exact ⟨l', s', p', Ev.bind hs h, h'⟩
theorem spec_DrawRegionsValid_ev (l : List Int) (hw : ∀ x ∈ l, (Lit.int .u8 x).wf = true) : ∃ r s, Ev (fun k => spec_DrawRegionsValid.f k l) (r, s) ∧ r.length ≤ 16 ∧ 3 ≤ r.length := by
  obtain ⟨b, hb, hB⟩ := spec_l20Open_ev l hw
  obtain ⟨r, s, p, h, _, _, h1, h2⟩ := spec_l20Regions_ev b 0 2 hB (by omega) (by omega) (by omega)
  refine ⟨r, s, ?_, h1, h2⟩
  unfold spec_DrawRegionsValid.f
  exact ev_bindc hb (Ev.bind h (ev_now rfl))
end XFnRegionsValid
open XFnRegionsValid
theorem FnRegionsValid : laws_FnRegionsValid.Pure := by
  intro l _ _ hw
  refine Ev.rounds (r := true) ?_
  unfold laws_FnRegionsValid.f
  by_cases hl : (l.length : Int) > 1048576
  · exact ev_pos hl (ev_now rfl)
  refine ev_neg hl ?_
  obtain ⟨g, s, hd, hg1, hg2⟩ := spec_DrawRegionsValid_ev l hw
  refine Ev.bind hd (Ev.bind (impl_RegionsValid_ev g s (by omega)) (Ev.bind (spec_RegionsValid_ev g s (by omega)) (ev_neg (by simp) ?_)))
  by_cases hv : Mo.SqOk (s - 1) g s
  · refine ev_pos (by simpa using hv) (ev_some ?_)
    refine ev_pos (by show 0 + g.length < _; omega) (ev_some ?_)
    refine ev_pos (by show (0 : Int) < (g.length : Int); omega) ?_
    refine Ev.bind (impl_RegionsValid_ev _ s (by simp; omega)) (ev_neg ?_ (ev_pos (by show (1 : Int) ≤ (g.length : Int); omega) ?_))
    · rw [decide_eq_true_iff]
      intro h
      have := h.2.2 (-1) (by
        rw [List.nil_append]
        obtain ⟨x, t, rfl⟩ : ∃ x t, g = x :: t := by cases g with
          | nil => simp at hg2
          | cons x t => exact ⟨x, t, rfl⟩
        simp)
      omega
    · refine Ev.bind (impl_RegionsValid_ev _ s (by simp; omega)) (ev_now ?_)
      have : ¬ Mo.SqOk (s - 1) (g.drop 1) s := by
        intro h
        have h1 := h.2.1
        have h2 := hv.2.1
        rw [List.length_drop] at h1
        omega
      rw [decide_eq_false this]; rfl
  · exact ev_neg (by simpa using hv) (Ev.bind laws_alive_ev (ev_now rfl))

end Go.Proofs.Ytinockknikfmgaa.Pure
