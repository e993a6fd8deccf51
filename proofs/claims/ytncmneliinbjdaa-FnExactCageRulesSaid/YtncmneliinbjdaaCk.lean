/- The rules of two neighbours that differ by a number: both sides make the same. No conditions. -/
import Derived.Test.YtncmneliinbjdaaCj
set_option linter.unusedVariables false
set_option linter.unusedSimpArgs false
namespace Go.Proofs.Ytncmneliinbjdaa.Rp
open Go Go.RowKit Go.Proofs.Ytncmneliinbjdaa.Ab

def apartV (g : List Int) (n d : Int) : List (Int × List Int × Int) := if squareSolved g n = true ∧ 0 ≤ d ∧ d < n then apartL g d (pairs n) 0 else []
theorem apartL_two (g : List Int) (d : Int) : ∀ (ps : List (Int × Int)) (c : Nat), ∀ v ∈ apartL g d ps c, v.2.1.length = 2
  | [], _, v, h => by simp [apartL] at h
  | p :: ps, c, v, h => by
    rw [apartL] at h
    split at h
    · rcases List.mem_cons.1 h with rfl | h
      · rfl
      · exact apartL_two g d ps _ v h
    · exact apartL_two g d ps _ v h
theorem apartL_len (g : List Int) (d : Int) : ∀ (ps : List (Int × Int)) (c : Nat), (apartL g d ps c).length ≤ ps.length
  | [], _ => by simp [apartL]
  | p :: ps, c => by
    rw [apartL]
    split
    · have := apartL_len g d ps (c + 1); simp only [List.length_cons]; omega
    · have := apartL_len g d ps c; simp only [List.length_cons]; omega
theorem solved_ok {g : List Int} {n : Int} (h : squareSolved g n = true) : gridOk g n = true := by
  unfold squareSolved squareFits at h
  simp only [Bool.and_eq_true] at h
  exact h.1.1
theorem vals_small {rs : List R} {vs : List (Int × List Int × Int)} (h : rs.map R.val = vs) (n : Nat) (hv : ∀ v ∈ vs, v.2.1.length ≤ n) : ∀ r ∈ rs, r.cells.length ≤ n := fun r hr => by
  have : r.val ∈ vs := by rw [← h]; exact List.mem_map_of_mem hr
  exact hv _ this

theorem implApart_ok {k : Nat} (hk : 2000004 ≤ k) {H : Hp} {s : Sl} {g : List Int} (n d : Int) (hs : Reads .i64 H s g) (hl : g.length ≤ 1048576) :
    ∃ t rs H', callF PP orc k impl_ApartRules.id [.sl 1 s, .int .i64 n, .int .i64 d] H = some (.sl 3 t, H') ∧ H <+: H' ∧ OwnR H H' t rs ∧ rs.map R.val = apartV g n d := by
  obtain ⟨k, rfl⟩ : ∃ m, k = m + 1 := ⟨k - 1, by omega⟩
  rw [impl_ApartRules.call]
  obtain ⟨H1, a1, a2⟩ := implSquareSolved_ok (show 2000003 ≤ k by omega) n hs hl
  have nil : ∀ H1, OwnR H H1 Sl.none [] := fun H1 => ⟨rfl, fun h => absurd rfl h, fun i hi => absurd hi (Nat.not_lt_zero _), fun i hi => absurd hi (Nat.not_lt_zero _), fun i j hi => absurd hi (Nat.not_lt_zero _)⟩
  cases hsq : squareSolved g n with
  | false =>
    refine ⟨Sl.none, [], H1, ?_, a2, nil _, by unfold apartV; rw [if_neg (by simp [hsq])]; rfl⟩
    simp only [impl_ApartRules.f, impl_ApartRules.j0, a1, Option.bind_some, AV.toB, hsq, Bool.not_false, cond_true]
  | true =>
    have hg := solved_ok hsq
    obtain ⟨⟨n1, n2⟩, n3, n4⟩ := (gridOk_iff g n).1 hg
    by_cases c1 : d < 0
    · refine ⟨Sl.none, [], H1, ?_, a2, nil _, by unfold apartV; rw [if_neg (by omega)]; rfl⟩
      simp only [impl_ApartRules.f, impl_ApartRules.j0, a1, Option.bind_some, AV.toB, hsq, Bool.not_true, cond_false, cond_true, c1, decide_true]
    · by_cases c2 : d ≥ n
      · refine ⟨Sl.none, [], H1, ?_, a2, nil _, by unfold apartV; rw [if_neg (by omega)]; rfl⟩
        simp only [impl_ApartRules.f, impl_ApartRules.j0, a1, Option.bind_some, AV.toB, hsq, Bool.not_true, cond_false, cond_true, c1, c2, decide_true, decide_false]
      · obtain ⟨t, H2, b1, b2, b3⟩ := neighbours_ok (show 2000000 ≤ k by omega) ⟨n1, n2⟩ (H1 ++ [some (Blk.mk false [])])
        have hpl := pairs_len n ⟨n1, n2⟩
        have htl : t.len = (pairs n).length := (own_readsP b3).len
        obtain ⟨out', rs', H', e1, e2, e3, e4⟩ := implApart_l2 (callF PP orc k) k (d := d) (s := s) (t := t) (ps := pairs n) hs (fun v hv => ⟨(n4 v hv).1, by have := (n4 v hv).2; omega⟩) (fun p hp => by rw [n3]; exact pairs_mem n ⟨n1, n2⟩ p hp) (by omega)
          (pairs n).length 0 k H2 (Sl.mk false H1.length 0 0) [] (by omega) (by omega) (a2.trans ((List.prefix_append _ _).trans b2))
          ⟨own_pf (own_base (own_new 3 H1 [] 0 rfl) a2) b2, fun i hi => absurd hi (Nat.not_lt_zero _), fun i hi => absurd hi (Nat.not_lt_zero _), fun i j hi => absurd hi (Nat.not_lt_zero _)⟩ (by simp) (own_readsP b3)
          (by have := b3.blk; simp only [List.length_append, List.length_singleton] at this; simp only; omega)
        refine ⟨out', rs', H', ?_, e2, e3.ownR, ?_⟩
        · simp only [impl_ApartRules.f, impl_ApartRules.j0, impl_ApartRules.j1, a1, Option.bind_some, AV.toB, hsq, Bool.not_true, cond_false, cond_true, c1, c2, decide_true, decide_false, b1, AV.toS, if_true, htl]
          exact e1
        · unfold apartV
          rw [if_pos ⟨hsq, by omega, by omega⟩]
          simpa using e4

theorem specApart_l2 (rec : Rec) (k : Nat) {H0 : Hp} {s t : Sl} {g : List Int} {ss : List Sl} {ps : List (Int × Int)} {d : Int} (hs : Reads .i64 H0 s g) (hg : ∀ v ∈ g, 0 ≤ v ∧ v ≤ 4) (hps : ∀ p ∈ ps, (0 ≤ p.1 ∧ p.1 < (g.length : Int)) ∧ (0 ≤ p.2 ∧ p.2 < (g.length : Int))) (hpl : ps.length ≤ 1000) (hss : ss.length = ps.length) (htl : t.len = ps.length) :
    ∀ (j i fuel : Nat) (H : Hp) (out : Sl) (rs : List R), i + j = ps.length → j < fuel → H0 <+: H → WR H0 H out rs → rs.length ≤ 20 → (∀ i, (h : i < ss.length) → H.cell t.blk (t.off + i) = some (.sl 1 ss[i])) → (∀ i, (h : i < ss.length) → (h' : i < ps.length) → Reads .i64 H ss[i] [ps[i].1, ps[i].2]) →
      t.blk ≠ out.blk → (∀ i, (h : i < ss.length) → ss[i].blk ≠ out.blk ∧ ss[i].blk < H.length) →
      ∃ out' rs' H', spec_ApartRules.l2 rec k fuel s d out t i H = some (.sl 3 out', H') ∧ H0 <+: H' ∧ WR H0 H' out' rs' ∧ rs'.map R.val = rs.map R.val ++ apartL g d (ps.drop i) rs.length := by
  intro j
  induction j with
  | zero =>
    intro i fuel H out rs hi hf hp ho hrl ht hrd hne hss'
    obtain ⟨fuel, rfl⟩ : ∃ q, fuel = q + 1 := ⟨fuel - 1, by omega⟩
    refine ⟨out, rs, H, ?_, hp, ho, by rw [List.drop_eq_nil_of_le (by omega)]; simp [apartL]⟩
    simp [spec_ApartRules.l2, spec_ApartRules.j3, spec_ApartRules.j5, htl, show ¬ i < ps.length by omega]
  | succ j ih =>
    intro i fuel H out rs hi hf hp ho hrl ht hrd hne hss'
    obtain ⟨fuel, rfl⟩ : ∃ q, fuel = q + 1 := ⟨fuel - 1, by omega⟩
    have hi1 : i < ps.length := by omega
    have hi2 : i < ss.length := by omega
    have hlt := cell_lt (ht i hi2)
    have q2 : (i : Int) < (t.len : Int) := by omega
    have hlen := own_len3 ho.own
    by_cases hc : rs.length < 20
    · obtain ⟨⟨p0, p1⟩, p2, p3⟩ := hps _ (List.getElem_mem hi1)
      rw [List.drop_eq_getElem_cons hi1, apartL]
      have hld : ldS 1 H t.blk (t.off + i) = some ss[i] := by unfold ldS; rw [ht i hi2]; simp [AV.toS]
      have hr := hrd i hi2 hi1
      have hsl2 := hr.len
      obtain ⟨hn1, hn2⟩ := hss' i hi2
      have r0 : ldI .i64 H ss[i].blk (ss[i].off + (0 : Int).toNat) = some ps[i].1 := reads_at hr 0 (by simp)
      have r1 : ldI .i64 H ss[i].blk (ss[i].off + (1 : Int).toNat) = some ps[i].2 := reads_at hr 1 (by simp)
      generalize ss[i] = sl at *
      generalize ps[i] = p at *
      have g0 := gv_at (pf_reads hp hs) p0 p1
      have g1 := gv_at (pf_reads hp hs) p2 p3
      have b0 := hg _ (gv_mem p0 p1)
      have b1 := hg _ (gv_mem p2 p3)
      have w1 : IntKind.i64.wrap (gv g p.1 - gv g p.2) = gv g p.1 - gv g p.2 := wr (by omega) (by omega)
      have w2 : IntKind.i64.wrap (0 - (gv g p.1 - gv g p.2)) = 0 - (gv g p.1 - gv g p.2) := wr (by omega) (by omega)
      have q0 : (0 : Int) ≤ (i : Int) := by omega
      have q3 : p.1 < (s.len : Int) := by rw [hs.len]; exact p1
      have q4 : p.2 < (s.len : Int) := by rw [hs.len]; exact p3
      have z0 : (0 : Int) < (sl.len : Int) := by rw [hsl2]; simp
      have z1 : (1 : Int) < (sl.len : Int) := by rw [hsl2]; simp
      have z2 : (0 : Int) ≤ 1 := by decide
      have h4 := wrs (i := i) (by omega)
      have hout := own_lt ho.own
      have hc' : (out.len : Int) < 20 := by omega
      cases hm : apartOk g d p with
      | true =>
        have hm' : (mx (gv g p.1 - gv g p.2) (0 - (gv g p.1 - gv g p.2))) == d := hm
        obtain ⟨out1, H9, c1, c2, c3, c4, c5, c6⟩ := wr_app ho hp (by omega) { kind := 5, sl := sl, cells := [p.1, p.2], value := d } hr hn1 hn2
        obtain ⟨out', rs', H', d1, d2, d3, d4⟩ := ih (i + 1) fuel H9 out1 _ (by omega) (by omega) c2 c3 (by simp; omega) (fun i h => c4.cell hne (ht i h)) (fun i h h' => c4.reads (hss' i h).1 (hrd i h h')) (by rw [c5]; omega) (fun i h => by have := (hss' i h).2; rw [c5, c6]; omega)
        refine ⟨out', rs', H', ?_, d2, d3, ?_⟩
        · push_cast at d1
          simp only [R.av] at c1
          simp only [spec_ApartRules.l2, spec_ApartRules.j3, spec_ApartRules.j4, spec_ApartRules.j6, q0, q2, q3, q4, p0, p2, z0, z1, z2, Int.le_refl, decide_true, Bool.and_self, cond_true, Int.toNat_natCast, Nat.mul_one, hld, r0, r1, g0, g1, Option.bind_some, w1, w2, hm', hc', c1, h4, d1]
        · rw [d4, if_pos ⟨rfl, hc⟩]; simp [R.val]
      | false =>
        have hm' : ((mx (gv g p.1 - gv g p.2) (0 - (gv g p.1 - gv g p.2))) == d) = false := hm
        obtain ⟨out', rs', H', d1, d2, d3, d4⟩ := ih (i + 1) fuel H out rs (by omega) (by omega) hp ho hrl ht hrd hne hss'
        refine ⟨out', rs', H', ?_, d2, d3, by rw [d4, if_neg (fun h => by cases h.1)]⟩
        push_cast at d1
        simp only [spec_ApartRules.l2, spec_ApartRules.j3, spec_ApartRules.j4, spec_ApartRules.j6, q0, q2, q3, q4, p0, p2, z0, z1, z2, Int.le_refl, decide_true, decide_false, Bool.and_self, cond_true, cond_false, Int.toNat_natCast, Nat.mul_one, hld, r0, r1, g0, g1, Option.bind_some, w1, w2, hm', hc', h4, d1]
    · have hc' : ¬ (out.len : Int) < 20 := by omega
      refine ⟨out, rs, H, ?_, hp, ho, by rw [apartL_full _ _ _ _ (by omega)]; simp⟩
      simp only [spec_ApartRules.l2, spec_ApartRules.j3, spec_ApartRules.j5, q2, hc', decide_true, decide_false, cond_true, cond_false]

theorem specApart_ok {k : Nat} (hk : 2000004 ≤ k) {H : Hp} {s : Sl} {g : List Int} (n d : Int) (hs : Reads .i64 H s g) (hl : g.length ≤ 1048576) :
    ∃ t rs H', callF PP orc k spec_ApartRules.id [.sl 1 s, .int .i64 n, .int .i64 d] H = some (.sl 3 t, H') ∧ H <+: H' ∧ ReadsR H' t rs ∧ rs.map R.val = apartV g n d := by
  obtain ⟨k, rfl⟩ : ∃ m, k = m + 1 := ⟨k - 1, by omega⟩
  rw [spec_ApartRules.call]
  have p0 : H <+: H ++ [some (Blk.mk false [])] := List.prefix_append _ _
  obtain ⟨H1, a1, a2⟩ := specSquareSolved_ok (show 2000003 ≤ k by omega) n (pf_reads p0 hs) hl
  have nil : ∀ H1, ReadsR H1 (Sl.mk false H.length 0 0) [] := fun H1 => ⟨rfl, fun i hi => absurd hi (Nat.not_lt_zero _), fun i hi => absurd hi (Nat.not_lt_zero _), fun i hi => absurd hi (Nat.not_lt_zero _), fun i hi => absurd hi (Nat.not_lt_zero _)⟩
  cases hsq : squareSolved g n with
  | false =>
    refine ⟨_, [], H1, ?_, p0.trans a2, nil _, by unfold apartV; rw [if_neg (by simp [hsq])]; rfl⟩
    simp only [spec_ApartRules.f, spec_ApartRules.j0, a1, Option.bind_some, AV.toB, hsq, Bool.not_false, cond_true]
  | true =>
    have hg := solved_ok hsq
    obtain ⟨⟨n1, n2⟩, n3, n4⟩ := (gridOk_iff g n).1 hg
    have hw : IntKind.i64.wrap (n - 1) = n - 1 := wr (by omega) (by omega)
    by_cases c : 0 ≤ d ∧ d ≤ n - 1
    · obtain ⟨t, ss, H2, b1, b2, b3⟩ := l19Pairs_ok (show 2000000 ≤ k by omega) ⟨n1, n2⟩ H1
      have hpl := pairs_len n ⟨n1, n2⟩
      have htl : t.len = (pairs n).length := by have := b3.own.len; simp [b3.len] at this; exact this
      have hle := (p0.trans a2).length_le
      have hle1 := a2.length_le
      simp only [List.length_append, List.length_singleton] at hle1
      have key := specApart_l2 (callF PP orc k) k (d := d) (s := s) (t := t) (ss := ss) (ps := pairs n) hs (fun v hv => ⟨(n4 v hv).1, by have := (n4 v hv).2; omega⟩) (fun p hp => by rw [n3]; exact pairs_mem n ⟨n1, n2⟩ p hp) (by omega) b3.len htl
          (pairs n).length 0 k H2 (Sl.mk false H.length 0 0) [] (by omega) (by omega) (p0.trans (a2.trans b2))
          ⟨own_pf (own_new 3 H [] 0 rfl) (a2.trans b2), fun i hi => absurd hi (Nat.not_lt_zero _), fun i hi => absurd hi (Nat.not_lt_zero _), fun i hi => absurd hi (Nat.not_lt_zero _)⟩ (by simp)
          (fun i h => by rw [own_cell b3.own]; simp [h]) b3.rd
          (by have := b3.own.blk; simp only; omega)
          (fun i h => ⟨by
            have h' : i < (pairs n).length := by rw [← b3.len]; exact h
            intro e
            have := (b3.rd i h h').cell 0 (by simp)
            unfold Hp.cell at this
            rw [e] at this
            have g' := (own_pf (own_new 3 H [] 0 rfl) (a2.trans b2)).get
            simp only at this g'
            rw [g'] at this
            simp at this, b3.lt i h⟩)
      obtain ⟨out', rs', H', e1, e2, e3, e4⟩ := key
      refine ⟨out', rs', H', ?_, e2, e3.reads, ?_⟩
      · simp only [spec_ApartRules.f, spec_ApartRules.j0, spec_ApartRules.j1, a1, Option.bind_some, AV.toB, hsq, Bool.not_true, cond_false, hw, l1In_ok (show 1 ≤ k by omega), c, and_self, decide_true, b1, AV.toS, if_true]
        exact e1
      · unfold apartV
        rw [if_pos ⟨hsq, by omega, by omega⟩]
        simpa using e4
    · refine ⟨_, [], H1, ?_, p0.trans a2, nil _, by unfold apartV; rw [if_neg (by omega)]; rfl⟩
      simp only [spec_ApartRules.f, spec_ApartRules.j0, a1, Option.bind_some, AV.toB, hsq, Bool.not_true, Bool.not_false, cond_false, cond_true, hw, l1In_ok (show 1 ≤ k by omega), c, decide_false]
end Go.Proofs.Ytncmneliinbjdaa.Rp
