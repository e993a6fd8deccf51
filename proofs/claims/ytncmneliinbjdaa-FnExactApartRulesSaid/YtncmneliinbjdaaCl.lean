/- The law FnExactApartRules: true whatever it is given. No conditions. -/
import Derived.Test.YtncmneliinbjdaaCk
set_option linter.unusedVariables false
set_option linter.unusedSimpArgs false
namespace Go.Proofs.Ytncmneliinbjdaa.Rp
open Go Go.RowKit Go.Proofs.Ytncmneliinbjdaa.Ab

theorem apart_small (g : List Int) (n d : Int) : (∀ v ∈ apartV g n d, v.2.1.length ≤ 1048576) ∧ (apartV g n d).length ≤ 1048576 := by
  unfold apartV
  split
  · rename_i h
    obtain ⟨hsq, _⟩ := h
    obtain ⟨hn, _⟩ := (gridOk_iff g n).1 (solved_ok hsq)
    refine ⟨fun v hv => by rw [apartL_two g d _ _ v hv]; omega, ?_⟩
    have := apartL_len g d (pairs n) 0
    have := pairs_len n hn
    omega
  · simp

theorem exactApart_ok {k : Nat} (hk : 2000010 ≤ k) {H : Hp} {s : Sl} {l : List Int} (n d : Int) (hs : Reads .i64 H s l) :
    ∃ H', callF PP orc k laws_FnExactApartRules.id [.sl 1 s, .int .i64 n, .int .i64 d] H = some (.bool true, H') := by
  obtain ⟨k, rfl⟩ : ∃ m, k = m + 1 := ⟨k - 1, by omega⟩
  rw [laws_FnExactApartRules.call]
  have hlen := hs.len
  by_cases hbig : (s.len : Int) > 1048576
  · exact ⟨H, by simp only [laws_FnExactApartRules.f, hbig, decide_true, cond_true]⟩
  · have hl : l.length ≤ 1048576 := by omega
    obtain ⟨s2, H1, a1, a2, a3⟩ := toIntS_ok (show 2000000 ≤ k by omega) hs hl
    obtain ⟨s4, rs4, H2, b1, b2, b3, b4⟩ := specApart_ok (show 2000004 ≤ k by omega) n d (own_reads a3) hl
    have hs2 := pf_reads (a2.trans b2) hs
    obtain ⟨s6, H3, c1, c2, c3⟩ := toIntS_ok (show 2000000 ≤ k by omega) hs2 hl
    obtain ⟨s8, rs8, H4, d1, d2, d3, d4⟩ := implApart_ok (show 2000004 ≤ k by omega) n d (own_reads c3) hl
    obtain ⟨sm1, sm2⟩ := apart_small l n d
    have v8 := vals_small d4 1048576 sm1
    have v4 := vals_small b4 1048576 sm1
    have n8 : rs8.length ≤ 1048576 := by have := congrArg List.length d4; simp at this; omega
    have e48 : (rs8.map R.val == rs4.map R.val) = true := by rw [d4, b4]; simp
    have f1 := eqRuleS_ok (show 2000002 ≤ k by omega) d3.reads (pf_readsR (c2.trans d2) b3) n8 v8
    obtain ⟨s12, H5, g1, g2, g3⟩ := toIntS_ok (show 2000000 ≤ k by omega) (pf_reads (c2.trans d2) hs2) hl
    have i6 := own_pf c3 (d2.trans g2)
    have h1 := eqIntS_ok (show 2000000 ≤ k by omega) (own_reads i6) (own_reads g3) hl
    obtain ⟨H6, j1, j2, j3, j4, j5⟩ := markIntS_ok (show 2000000 ≤ k by omega) (q := 1) (by omega) (by omega) hl (c2.trans (d2.trans g2)) i6
    have o8 : OwnR H3 H6 s8 rs8 := (d3.pf g2).but (own_lt c3) j4
    have r4 : ReadsR H6 s4 rs4 := pf_readsR j2 b3
    have f2 := eqRuleS_ok (show 2000002 ≤ k by omega) o8.reads r4 n8 v8
    obtain ⟨H7, rs', Q, m1, m2, m3, m4, m5, m6, m7⟩ := markRuleS_ok (show 2000001 ≤ k by omega) (q := 1) (by omega) (by omega) n8 v8 j2 (o8.base c2)
    have hQ := m6.le
    have p1 := heldRuleS_ok (show 2000001 ≤ k by omega) m3.reads (by omega) m5 m7 (by omega) m6
    obtain ⟨s24, H8, q1, q2, q3⟩ := toIntS_ok (show 2000000 ≤ k by omega) (pf_reads m2 hs2) hl
    obtain ⟨s26, rs26, H9, t1, t2, t3, t4⟩ := implApart_ok (show 2000004 ≤ k by omega) n d (own_reads q3) hl
    have v26 := vals_small t4 1048576 sm1
    have n26 : rs26.length ≤ 1048576 := by have := congrArg List.length t4; simp at this; omega
    have e26 : (rs26.map R.val == rs4.map R.val) = true := by rw [t4, b4]; simp
    have f3 := eqRuleS_ok (show 2000002 ≤ k by omega) t3.reads (pf_readsR (m2.trans (q2.trans t2)) b3) n26 v26
    have p2 := heldRuleS_ok (show 2000001 ≤ k by omega) (m3.pf (q2.trans t2)).reads (by omega) m5 m7 (by omega) m6
    refine ⟨H9, ?_⟩
    have z1 : ¬ ((1 : Int) + (l.length : Int) < 0) := by omega
    have z2 : ¬ (Q < 0) := by omega
    have z3 : (Q != Q) = false := by simp
    have z4 : (l == l) = true := by simp
    rw [z4] at h1
    rw [e48] at f1 f2
    rw [e26] at f3
    simp only [laws_FnExactApartRules.f, laws_FnExactApartRules.j0, laws_FnExactApartRules.j1, hbig, decide_false, cond_false, a1, b1, c1, d1, f1, g1, h1, j1, f2, m1, p1, q1, t1, f3, p2, Option.bind_some, AV.toS, AV.toB, AV.toI, if_true, Bool.not_true, z1, z2, z3]
end Go.Proofs.Ytncmneliinbjdaa.Rp
