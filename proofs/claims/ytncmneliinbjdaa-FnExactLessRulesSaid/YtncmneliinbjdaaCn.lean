/- The less first: the model's side, and the law FnExactLessRules. No conditions. -/
import Derived.Test.YtncmneliinbjdaaCm
set_option linter.unusedVariables false
set_option linter.unusedSimpArgs false
namespace Go.Proofs.Ytncmneliinbjdaa.Rp
open Go Go.RowKit Go.Proofs.Ytncmneliinbjdaa.Ab

theorem specLess_j6 (rec : Rec) (k : Nat) (L2 : Sl → Int → Sl → Sl → Int → Hp → An) {H0 H : Hp} {s out t : Sl} {rs : List R} {m : Int} {i : Nat} {x y : Int} (hp : H0 <+: H) (ho : WR H0 H out rs) (hrl : rs.length ≤ 1000) (hi : i ≤ 1000) :
    ∃ out1 H9, spec_LessRules.j6 rec k L2 s m out t i x y H = L2 s m out1 t ((i : Int) + 1) H9 ∧ H0 <+: H9 ∧ WR H0 H9 out1 (rs ++ [{ kind := 4, sl := Sl.mk false H.length 0 2, cells := [x, y], value := 0 }]) ∧ But out.blk (H ++ [some (Blk.mk false [.int .i64 x, .int .i64 y])]) H9 ∧ H.length < out1.blk ∧ H9.length = H.length + 2 ∧ out1.blk = H.length + 1 := by
  have h4 := wrs (i := i) (by omega)
  have hout := own_lt ho.own
  have e8 := own_new 1 H ([x, y].map (.int .i64)) 2 rfl
  have g8 : H <+: H ++ [some (Blk.mk false ([x, y].map (.int .i64)))] := List.prefix_append _ _
  obtain ⟨out1, H9, c1, c2, c3, c4, c5, c6⟩ := wr_app (ho.pf g8) (hp.trans g8) (by omega) { kind := 4, sl := Sl.mk false H.length 0 2, cells := [x, y], value := 0 } (own_reads e8) (by simp only; omega) (by simp)
  refine ⟨out1, H9, ?_, c2, c3, c4, by rw [c5]; simp, by rw [c6]; simp, by rw [c5]; simp⟩
  simp only [R.av, List.map_cons, List.map_nil] at c1
  simp only [spec_LessRules.j6, spec_LessRules.j7, Option.bind_some, c1, h4]

theorem specLess_l2 (rec : Rec) (k : Nat) {H0 : Hp} {s t : Sl} {g : List Int} {ss : List Sl} {ps : List (Int × Int)} {m : Nat} (hm : m ≤ 20) (hs : Reads .i64 H0 s g) (hps : ∀ p ∈ ps, (0 ≤ p.1 ∧ p.1 < (g.length : Int)) ∧ (0 ≤ p.2 ∧ p.2 < (g.length : Int))) (hpl : ps.length ≤ 1000) (hss : ss.length = ps.length) (htl : t.len = ps.length) :
    ∀ (j i fuel : Nat) (H : Hp) (out : Sl) (rs : List R), i + j = ps.length → j < fuel → H0 <+: H → WR H0 H out rs → rs.length ≤ 1000 → (∀ i, (h : i < ss.length) → H.cell t.blk (t.off + i) = some (.sl 1 ss[i])) → (∀ i, (h : i < ss.length) → (h' : i < ps.length) → Reads .i64 H ss[i] [ps[i].1, ps[i].2]) →
      t.blk ≠ out.blk → (∀ i, (h : i < ss.length) → ss[i].blk ≠ out.blk ∧ ss[i].blk < H.length) →
      ∃ out' rs' H', spec_LessRules.l2 rec k fuel s m out t i H = some (.sl 3 out', H') ∧ H0 <+: H' ∧ WR H0 H' out' rs' ∧ rs'.map R.val = rs.map R.val ++ ((ps.drop i).map (lessR g)).take (m - rs.length) := by
  intro j
  induction j with
  | zero =>
    intro i fuel H out rs hi hf hp ho hrl ht hrd hne hss'
    obtain ⟨fuel, rfl⟩ : ∃ q, fuel = q + 1 := ⟨fuel - 1, by omega⟩
    refine ⟨out, rs, H, ?_, hp, ho, by rw [List.drop_eq_nil_of_le (by omega)]; simp⟩
    simp [spec_LessRules.l2, spec_LessRules.j3, spec_LessRules.j5, htl, show ¬ i < ps.length by omega]
  | succ j ih =>
    intro i fuel H out rs hi hf hp ho hrl ht hrd hne hss'
    obtain ⟨fuel, rfl⟩ : ∃ q, fuel = q + 1 := ⟨fuel - 1, by omega⟩
    have hi1 : i < ps.length := by omega
    have hi2 : i < ss.length := by omega
    have hlt := cell_lt (ht i hi2)
    have q2 : (i : Int) < (t.len : Int) := by omega
    have hlen := own_len3 ho.own
    by_cases hc : rs.length < m
    · obtain ⟨⟨p0, p1⟩, p2, p3⟩ := hps _ (List.getElem_mem hi1)
      rw [List.drop_eq_getElem_cons hi1, List.map_cons]
      have hld : ldS 1 H t.blk (t.off + i) = some ss[i] := by unfold ldS; rw [ht i hi2]; simp [AV.toS]
      have hr := hrd i hi2 hi1
      have hsl2 := hr.len
      have r0 : ldI .i64 H ss[i].blk (ss[i].off + (0 : Int).toNat) = some ps[i].1 := reads_at hr 0 (by simp)
      have r1 : ldI .i64 H ss[i].blk (ss[i].off + (1 : Int).toNat) = some ps[i].2 := reads_at hr 1 (by simp)
      generalize ss[i] = sl at *
      generalize ps[i] = p at *
      have g0 := gv_at (pf_reads hp hs) p0 p1
      have g1 := gv_at (pf_reads hp hs) p2 p3
      have q0 : (0 : Int) ≤ (i : Int) := by omega
      have q3 : p.1 < (s.len : Int) := by rw [hs.len]; exact p1
      have q4 : p.2 < (s.len : Int) := by rw [hs.len]; exact p3
      have z0 : (0 : Int) < (sl.len : Int) := by rw [hsl2]; simp
      have z1 : (1 : Int) < (sl.len : Int) := by rw [hsl2]; simp
      have z2 : (0 : Int) ≤ 1 := by decide
      have hout := own_lt ho.own
      have hc' : (out.len : Int) < (m : Int) := by omega
      have fin : ∀ (x y : Int), lessP g p = (x, y) →
          ∃ out' rs' H', spec_LessRules.j6 rec k (spec_LessRules.l2 rec k fuel) s m out t i x y H = some (.sl 3 out', H') ∧ H0 <+: H' ∧ WR H0 H' out' rs' ∧ rs'.map R.val = rs.map R.val ++ (lessR g p :: (ps.drop (i + 1)).map (lessR g)).take (m - rs.length) := by
        intro x y hx
        obtain ⟨out1, H9, c1, c2, c3, c4, c5, c6, c7⟩ := specLess_j6 rec k (spec_LessRules.l2 rec k fuel) (s := s) (t := t) (m := m) (i := i) (x := x) (y := y) hp ho (by omega) (by omega)
        have g8 : H <+: H ++ [some (Blk.mk false [.int .i64 x, .int .i64 y])] := List.prefix_append _ _
        obtain ⟨out', rs', H', d1, d2, d3, d4⟩ := ih (i + 1) fuel H9 out1 _ (by omega) (by omega) c2 c3 (by simp; omega) (fun i h => c4.cell hne (pf_cell g8 (ht i h))) (fun i h h' => c4.reads (hss' i h).1 (pf_reads g8 (hrd i h h'))) (by omega) (fun i h => by have := (hss' i h).2; omega)
        push_cast at d1
        refine ⟨out', rs', H', c1.trans d1, d2, d3, ?_⟩
        rw [d4, show m - rs.length = (m - (rs.length + 1)) + 1 by omega, List.take_succ_cons]
        simp [R.val, lessR, hx]
      by_cases c : gv g p.1 > gv g p.2
      · obtain ⟨out', rs', H', d1, d2, d3, d4⟩ := fin p.2 p.1 (by unfold lessP; rw [if_pos c])
        refine ⟨out', rs', H', ?_, d2, d3, d4⟩
        simp only [spec_LessRules.l2, spec_LessRules.j3, spec_LessRules.j4, q0, q2, q3, q4, p0, p2, z0, z1, z2, c, Int.le_refl, decide_true, Bool.and_self, cond_true, Int.toNat_natCast, Nat.mul_one, hld, r0, r1, g0, g1, Option.bind_some, hc', d1]
      · obtain ⟨out', rs', H', d1, d2, d3, d4⟩ := fin p.1 p.2 (by unfold lessP; rw [if_neg c])
        refine ⟨out', rs', H', ?_, d2, d3, d4⟩
        simp only [spec_LessRules.l2, spec_LessRules.j3, spec_LessRules.j4, q0, q2, q3, q4, p0, p2, z0, z1, z2, c, Int.le_refl, decide_true, decide_false, Bool.and_self, cond_true, cond_false, Int.toNat_natCast, Nat.mul_one, hld, r0, r1, g0, g1, Option.bind_some, hc', d1]
    · have hc' : ¬ (out.len : Int) < (m : Int) := by omega
      refine ⟨out, rs, H, ?_, hp, ho, by rw [show m - rs.length = 0 by omega]; simp⟩
      simp only [spec_LessRules.l2, spec_LessRules.j3, spec_LessRules.j5, q2, hc', decide_true, decide_false, cond_true, cond_false]

theorem specLess_ok {k : Nat} (hk : 2000004 ≤ k) {H : Hp} {s : Sl} {g : List Int} (n d : Int) (hs : Reads .i64 H s g) (hl : g.length ≤ 1048576) :
    ∃ t rs H', callF PP orc k spec_LessRules.id [.sl 1 s, .int .i64 n, .int .i64 d] H = some (.sl 3 t, H') ∧ H <+: H' ∧ ReadsR H' t rs ∧ rs.map R.val = lessV g n d := by
  obtain ⟨k, rfl⟩ : ∃ m, k = m + 1 := ⟨k - 1, by omega⟩
  rw [spec_LessRules.call]
  have p0 : H <+: H ++ [some (Blk.mk false [])] := List.prefix_append _ _
  obtain ⟨H1, a1, a2⟩ := specSquareSolved_ok (show 2000003 ≤ k by omega) n (pf_reads p0 hs) hl
  have nil : ∀ H1, ReadsR H1 (Sl.mk false H.length 0 0) [] := fun H1 => ⟨rfl, fun i hi => absurd hi (Nat.not_lt_zero _), fun i hi => absurd hi (Nat.not_lt_zero _), fun i hi => absurd hi (Nat.not_lt_zero _), fun i hi => absurd hi (Nat.not_lt_zero _)⟩
  cases hsq : squareSolved g n with
  | false =>
    refine ⟨_, [], H1, ?_, p0.trans a2, nil _, by unfold lessV; rw [if_neg (by simp [hsq])]; rfl⟩
    simp only [spec_LessRules.f, spec_LessRules.j0, a1, Option.bind_some, AV.toB, hsq, Bool.not_false, cond_true]
  | true =>
    have hg := solved_ok hsq
    obtain ⟨⟨n1, n2⟩, n3, n4⟩ := (gridOk_iff g n).1 hg
    by_cases c : 0 ≤ d ∧ d ≤ 20
    · obtain ⟨t, ss, H2, b1, b2, b3⟩ := l19Pairs_ok (show 2000000 ≤ k by omega) ⟨n1, n2⟩ H1
      have hpl := pairs_len n ⟨n1, n2⟩
      have htl : t.len = (pairs n).length := by have := b3.own.len; simp [b3.len] at this; exact this
      have hle1 := a2.length_le
      simp only [List.length_append, List.length_singleton] at hle1
      obtain ⟨m, rfl⟩ := Int.eq_ofNat_of_zero_le c.1
      have key := specLess_l2 (callF PP orc k) k (m := m) (s := s) (t := t) (ss := ss) (ps := pairs n) (by omega) hs (fun p hp => by rw [n3]; exact pairs_mem n ⟨n1, n2⟩ p hp) (by omega) b3.len htl
          (pairs n).length 0 k H2 (Sl.mk false H.length 0 0) [] (by omega) (by omega) (p0.trans (a2.trans b2))
          ⟨own_pf (own_new 3 H [] 0 rfl) (a2.trans b2), fun i hi => absurd hi (Nat.not_lt_zero _), fun i hi => absurd hi (Nat.not_lt_zero _), fun i hi => absurd hi (Nat.not_lt_zero _)⟩ (by simp)
          (fun i h => by rw [own_cell b3.own]; simp [h]) b3.rd
          (by have := b3.own.blk; simp only; omega)
          (fun i h => ⟨by
            have h' : i < (pairs n).length := by rw [← b3.len]; exact h
            intro e
            have := (b3.rd i h h').cell 0 (by simp)
            unfold Hp.cell at this
            rw [e] at this
            have g' := (own_pf (own_new 3 H [] 0 rfl) (a2.trans b2)).get
            simp only at this g'
            rw [g'] at this
            simp at this, b3.lt i h⟩)
      obtain ⟨out', rs', H', e1, e2, e3, e4⟩ := key
      refine ⟨out', rs', H', ?_, e2, e3.reads, ?_⟩
      · simp only [spec_LessRules.f, spec_LessRules.j0, spec_LessRules.j1, a1, Option.bind_some, AV.toB, hsq, Bool.not_true, cond_false, l1In_ok (show 1 ≤ k by omega), c, and_self, decide_true, b1, AV.toS, if_true]
        exact e1
      · unfold lessV
        rw [if_pos ⟨hsq, by omega, by omega⟩]
        simpa using e4
    · refine ⟨_, [], H1, ?_, p0.trans a2, nil _, by unfold lessV; rw [if_neg (by omega)]; rfl⟩
      simp only [spec_LessRules.f, spec_LessRules.j0, a1, Option.bind_some, AV.toB, hsq, Bool.not_true, Bool.not_false, cond_false, cond_true, l1In_ok (show 1 ≤ k by omega), c, decide_false]

theorem less_small (g : List Int) (n d : Int) : (∀ v ∈ lessV g n d, v.2.1.length ≤ 1048576) ∧ (lessV g n d).length ≤ 1048576 := by
  unfold lessV
  split
  · rename_i h
    obtain ⟨hsq, _⟩ := h
    obtain ⟨hn, _⟩ := (gridOk_iff g n).1 (solved_ok hsq)
    refine ⟨fun v hv => ?_, ?_⟩
    · obtain ⟨p, _, rfl⟩ := List.mem_map.1 (List.mem_of_mem_take hv)
      simp [lessR]
    · have := pairs_len n hn
      simp only [List.length_take, List.length_map]
      omega
  · simp

theorem exactLess_ok {k : Nat} (hk : 2000010 ≤ k) {H : Hp} {s : Sl} {l : List Int} (n d : Int) (hs : Reads .i64 H s l) :
    ∃ H', callF PP orc k laws_FnExactLessRules.id [.sl 1 s, .int .i64 n, .int .i64 d] H = some (.bool true, H') := by
  obtain ⟨k, rfl⟩ : ∃ m, k = m + 1 := ⟨k - 1, by omega⟩
  rw [laws_FnExactLessRules.call]
  have hlen := hs.len
  by_cases hbig : (s.len : Int) > 1048576
  · exact ⟨H, by simp only [laws_FnExactLessRules.f, hbig, decide_true, cond_true]⟩
  · have hl : l.length ≤ 1048576 := by omega
    obtain ⟨s2, H1, a1, a2, a3⟩ := toIntS_ok (show 2000000 ≤ k by omega) hs hl
    obtain ⟨s4, rs4, H2, b1, b2, b3, b4⟩ := specLess_ok (show 2000004 ≤ k by omega) n d (own_reads a3) hl
    have hs2 := pf_reads (a2.trans b2) hs
    obtain ⟨s6, H3, c1, c2, c3⟩ := toIntS_ok (show 2000000 ≤ k by omega) hs2 hl
    obtain ⟨s8, rs8, H4, d1, d2, d3, d4⟩ := implLess_ok (show 2000004 ≤ k by omega) n d (own_reads c3) hl
    obtain ⟨sm1, sm2⟩ := less_small l n d
    have v8 := vals_small d4 1048576 sm1
    have v4 := vals_small b4 1048576 sm1
    have n8 : rs8.length ≤ 1048576 := by have := congrArg List.length d4; simp at this; omega
    have e48 : (rs8.map R.val == rs4.map R.val) = true := by rw [d4, b4]; simp
    have f1 := eqRuleS_ok (show 2000002 ≤ k by omega) d3.reads (pf_readsR (c2.trans d2) b3) n8 v8
    obtain ⟨s12, H5, g1, g2, g3⟩ := toIntS_ok (show 2000000 ≤ k by omega) (pf_reads (c2.trans d2) hs2) hl
    have i6 := own_pf c3 (d2.trans g2)
    have h1 := eqIntS_ok (show 2000000 ≤ k by omega) (own_reads i6) (own_reads g3) hl
    obtain ⟨H6, j1, j2, j3, j4, j5⟩ := markIntS_ok (show 2000000 ≤ k by omega) (q := 1) (by omega) (by omega) hl (c2.trans (d2.trans g2)) i6
    have o8 : OwnR H3 H6 s8 rs8 := (d3.pf g2).but (own_lt c3) j4
    have r4 : ReadsR H6 s4 rs4 := pf_readsR j2 b3
    have f2 := eqRuleS_ok (show 2000002 ≤ k by omega) o8.reads r4 n8 v8
    obtain ⟨H7, rs', Q, m1, m2, m3, m4, m5, m6, m7⟩ := markRuleS_ok (show 2000001 ≤ k by omega) (q := 1) (by omega) (by omega) n8 v8 j2 (o8.base c2)
    have hQ := m6.le
    have p1 := heldRuleS_ok (show 2000001 ≤ k by omega) m3.reads (by omega) m5 m7 (by omega) m6
    obtain ⟨s24, H8, q1, q2, q3⟩ := toIntS_ok (show 2000000 ≤ k by omega) (pf_reads m2 hs2) hl
    obtain ⟨s26, rs26, H9, t1, t2, t3, t4⟩ := implLess_ok (show 2000004 ≤ k by omega) n d (own_reads q3) hl
    have v26 := vals_small t4 1048576 sm1
    have n26 : rs26.length ≤ 1048576 := by have := congrArg List.length t4; simp at this; omega
    have e26 : (rs26.map R.val == rs4.map R.val) = true := by rw [t4, b4]; simp
    have f3 := eqRuleS_ok (show 2000002 ≤ k by omega) t3.reads (pf_readsR (m2.trans (q2.trans t2)) b3) n26 v26
    have p2 := heldRuleS_ok (show 2000001 ≤ k by omega) (m3.pf (q2.trans t2)).reads (by omega) m5 m7 (by omega) m6
    refine ⟨H9, ?_⟩
    have z1 : ¬ ((1 : Int) + (l.length : Int) < 0) := by omega
    have z2 : ¬ (Q < 0) := by omega
    have z3 : (Q != Q) = false := by simp
    have z4 : (l == l) = true := by simp
    rw [z4] at h1
    rw [e48] at f1 f2
    rw [e26] at f3
    simp only [laws_FnExactLessRules.f, laws_FnExactLessRules.j0, laws_FnExactLessRules.j1, hbig, decide_false, cond_false, a1, b1, c1, d1, f1, g1, h1, j1, f2, m1, p1, q1, t1, f3, p2, Option.bind_some, AV.toS, AV.toB, AV.toI, if_true, Bool.not_true, z1, z2, z3]
end Go.Proofs.Ytncmneliinbjdaa.Rp
