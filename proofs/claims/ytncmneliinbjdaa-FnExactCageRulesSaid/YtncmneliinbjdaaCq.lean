/- The law FnExactCageRules: true whatever it is given. No conditions. -/
import Derived.Test.YtncmneliinbjdaaCp
set_option linter.unusedVariables false
set_option linter.unusedSimpArgs false
namespace Go.Proofs.Ytncmneliinbjdaa.Rp
open Go Go.RowKit Go.Proofs.Ytncmneliinbjdaa.Ab

theorem cageFrom_small (g l : List Int) (p : Bool) : ∀ (j r : Nat) (vs : List (Int × List Int × Int)), cageFrom g l p r j = some vs → (∀ v ∈ vs, v.2.1.length ≤ 4) ∧ vs.length ≤ j := by
  intro j
  induction j with
  | zero => intro r vs h; simp [cageFrom] at h; subst h; simp
  | succ j ih =>
    intro r vs h
    rw [cageFrom] at h
    split at h
    · simp at h
    · rename_i h4
      cases hq : cageFrom g l p (r + 1) j with
      | none => rw [hq] at h; simp at h
      | some rest =>
        rw [hq] at h
        obtain ⟨i1, i2⟩ := ih (r + 1) rest hq
        simp only [Option.map_some, Option.some.injEq] at h
        split at h
        · subst h; exact ⟨i1, by omega⟩
        · subst h
          refine ⟨fun v hv => ?_, by simp; omega⟩
          rcases List.mem_cons.1 hv with rfl | hv
          · simp [cageRule]; omega
          · exact i1 v hv
theorem cage_small (g l : List Int) (n : Int) (p : Bool) : (∀ v ∈ (cageV g n l p).getD [], v.2.1.length ≤ 1048576) ∧ ((cageV g n l p).getD []).length ≤ 1048576 := by
  cases h : cageV g n l p with
  | none => simp
  | some vs =>
    unfold cageV at h
    split at h
    · rename_i hc
      obtain ⟨hn, _⟩ := (gridOk_iff g n).1 (solved_ok hc.1)
      obtain ⟨i1, i2⟩ := cageFrom_small g l p _ _ vs h
      refine ⟨fun v hv => by have := i1 v (by simpa using hv); omega, ?_⟩
      simp only [Option.getD_some]; omega
    · simp at h

theorem exactCage_ok {k : Nat} (hk : 2000010 ≤ k) {H : Hp} {s t : Sl} {l m : List Int} (n : Int) (p : Bool) (hs : Reads .i64 H s l) (ht : Reads .i64 H t m) :
    ∃ H', callF PP orc k laws_FnExactCageRules.id [.sl 1 s, .int .i64 n, .sl 1 t, .bool p] H = some (.bool true, H') := by
  obtain ⟨k, rfl⟩ : ∃ m, k = m + 1 := ⟨k - 1, by omega⟩
  rw [laws_FnExactCageRules.call]
  have hlen := hs.len
  have hlent := ht.len
  by_cases hbig : (s.len : Int) > 1048576
  · exact ⟨H, by simp only [laws_FnExactCageRules.f, hbig, decide_true, cond_true]⟩
  by_cases hbig2 : (t.len : Int) > 1048576
  · exact ⟨H, by simp only [laws_FnExactCageRules.f, hbig, hbig2, decide_true, decide_false, cond_true, cond_false]⟩
  have hl : l.length ≤ 1048576 := by omega
  have hm : m.length ≤ 1048576 := by omega
  obtain ⟨s2, H1, a1, a2, a3⟩ := toIntS_ok (show 2000000 ≤ k by omega) hs hl
  obtain ⟨s2', H1', a1', a2', a3'⟩ := toIntS_ok (show 2000000 ≤ k by omega) (pf_reads a2 ht) hm
  obtain ⟨s4, rs4, H2, b1, b2, b3, b4⟩ := specCage_ok (show 2000004 ≤ k by omega) n p (pf_reads a2' (own_reads a3)) hl (own_reads a3') hm
  have g2 := a2.trans (a2'.trans b2)
  have hs2 := pf_reads g2 hs
  have ht2 := pf_reads g2 ht
  obtain ⟨s6, H3, c1, c2, c3⟩ := toIntS_ok (show 2000000 ≤ k by omega) hs2 hl
  obtain ⟨s6', H3', c1', c2', c3'⟩ := toIntS_ok (show 2000000 ≤ k by omega) (pf_reads c2 ht2) hm
  obtain ⟨s8, rs8, H4, d1, d2, d3, d4⟩ := implCage_ok (show 2000004 ≤ k by omega) n p (pf_reads c2' (own_reads c3)) hl (own_reads c3') hm
  obtain ⟨sm1, sm2⟩ := cage_small l m n p
  have v8 := vals_small d4 1048576 sm1
  have n8 : rs8.length ≤ 1048576 := by have := congrArg List.length d4; rw [List.length_map] at this; omega
  have e48 : (rs8.map R.val == rs4.map R.val) = true := by rw [d4, b4]; simp
  have g4 := c2.trans (c2'.trans d2)
  have f1 := eqRuleS_ok (show 2000002 ≤ k by omega) d3.reads (pf_readsR g4 b3) n8 v8
  obtain ⟨s12, H5, g1, g2', g3⟩ := toIntS_ok (show 2000000 ≤ k by omega) (pf_reads g4 hs2) hl
  have i6 := own_pf c3 (c2'.trans (d2.trans g2'))
  have h1 := eqIntS_ok (show 2000000 ≤ k by omega) (own_reads i6) (own_reads g3) hl
  obtain ⟨s12', H5', g1', g2'', g3'⟩ := toIntS_ok (show 2000000 ≤ k by omega) (pf_reads (g4.trans g2') ht2) hm
  have i6' := own_pf c3' (d2.trans (g2'.trans g2''))
  have h1' := eqIntS_ok (show 2000000 ≤ k by omega) (own_reads i6') (own_reads g3') hm
  have i6b := own_pf i6 g2''
  obtain ⟨H6, j1, j2, j3, j4, j5⟩ := markIntS_ok (show 2000000 ≤ k by omega) (q := 1) (by omega) (by omega) hl (c2.trans (c2'.trans (d2.trans (g2'.trans g2'')))) i6b
  have lt6 := own_lt c3
  have i7 : Own 1 H3 H6 s6' (m.map (.int .i64)) := j4.own (by have := c3'.blk; omega) i6'
  obtain ⟨H6', j1', j2', j3', j4', j5'⟩ := markIntS_ok (show 2000000 ≤ k by omega) (q := 1 + (l.length : Int)) (by omega) (by omega) hm j2 (own_base i7 c2)
  have lt6' := own_lt c3'
  have o8 : OwnR H3' H6 s8 rs8 := (d3.pf (g2'.trans g2'')).but (by have := c2'.length_le; omega) j4
  have o8' : OwnR H3' H6' s8 rs8 := o8.but lt6' j4'
  have r4 : ReadsR H6' s4 rs4 := pf_readsR j2' b3
  have f2 := eqRuleS_ok (show 2000002 ≤ k by omega) o8'.reads r4 n8 v8
  obtain ⟨H7, rs', Q, m1, m2, m3, m4, m5, m6, m7⟩ := markRuleS_ok (show 2000001 ≤ k by omega) (q := 1) (by omega) (by omega) n8 v8 j2' (o8'.base (c2.trans c2'))
  have hQ := m6.le
  have p1 := heldRuleS_ok (show 2000001 ≤ k by omega) m3.reads (by omega) m5 m7 (by omega) m6
  obtain ⟨s24, H8, q1, q2, q3⟩ := toIntS_ok (show 2000000 ≤ k by omega) (pf_reads m2 hs2) hl
  obtain ⟨s24', H8', q1', q2', q3'⟩ := toIntS_ok (show 2000000 ≤ k by omega) (pf_reads (m2.trans q2) ht2) hm
  obtain ⟨s26, rs26, H9, t1, t2, t3, t4⟩ := implCage_ok (show 2000004 ≤ k by omega) n p (pf_reads q2' (own_reads q3)) hl (own_reads q3') hm
  have v26 := vals_small t4 1048576 sm1
  have n26 : rs26.length ≤ 1048576 := by have := congrArg List.length t4; rw [List.length_map] at this; omega
  have e26 : (rs26.map R.val == rs4.map R.val) = true := by rw [t4, b4]; simp
  have g9 := q2.trans (q2'.trans t2)
  have f3 := eqRuleS_ok (show 2000002 ≤ k by omega) t3.reads (pf_readsR (m2.trans g9) b3) n26 v26
  have p2 := heldRuleS_ok (show 2000001 ≤ k by omega) (m3.pf g9).reads (by omega) m5 m7 (by omega) m6
  refine ⟨H9, ?_⟩
  have z1 : ¬ ((1 : Int) + (l.length : Int) + (m.length : Int) < 0) := by omega
  have z2 : ¬ (Q < 0) := by omega
  have z3 : (Q != Q) = false := by simp
  have z4 : (l == l) = true := by simp
  have z5 : (m == m) = true := by simp
  have z6 : ∀ b : Bool, (b == b) = true := by intro b; cases b <;> rfl
  rw [z4] at h1
  rw [z5] at h1'
  rw [e48] at f1 f2
  rw [e26] at f3
  simp only [laws_FnExactCageRules.f, laws_FnExactCageRules.j0, laws_FnExactCageRules.j1, laws_FnExactCageRules.j2, laws_FnExactCageRules.j3, laws_FnExactCageRules.j4, laws_FnExactCageRules.j5, hbig, hbig2, decide_false, cond_false, cond_true, a1, a1', b1, c1, c1', d1, f1, g1, g1', h1, h1', j1, j1', f2, m1, p1, q1, q1', t1, f3, p2, Option.bind_some, AV.toS, AV.toB, AV.toI, AV.isTup, AV.nth, if_true, Bool.not_true, z1, z2, z3, z6, List.length_cons, List.length_nil, List.getD_cons_zero, List.getD_cons_succ]
  try rfl
end Go.Proofs.Ytncmneliinbjdaa.Rp
