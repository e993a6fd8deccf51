/- The rules of two neighbours, the less first: both sides make the same; the law FnExactLessRules. No conditions. -/
import Derived.Test.YtncmneliinbjdaaCk
set_option linter.unusedVariables false
set_option linter.unusedSimpArgs false
namespace Go.Proofs.Ytncmneliinbjdaa.Rp
open Go Go.RowKit Go.Proofs.Ytncmneliinbjdaa.Ab

def lessP (g : List Int) (p : Int × Int) : Int × Int := if gv g p.1 > gv g p.2 then (p.2, p.1) else p
def lessR (g : List Int) (p : Int × Int) : Int × List Int × Int := (4, [(lessP g p).1, (lessP g p).2], 0)
def lessV (g : List Int) (n : Int) (m : Int) : List (Int × List Int × Int) := if squareSolved g n = true ∧ 0 ≤ m ∧ m ≤ 20 then ((pairs n).map (lessR g)).take m.toNat else []

theorem implLess_j3 (rec : Rec) (k : Nat) (L2 : Sl → Int → Sl → Sl → Int → Int → Hp → An) {H0 Hb H1 : Hp} {s out t : Sl} {rs : List R} {m plen : Int} {i b : Nat} {x y : Int} (hp : H0 <+: H1) (ho : WO H0 H1 out rs) (hrl : rs.length ≤ 1000) (hi : i ≤ 1000) (hv : Own 1 Hb H1 (Sl.mk false b 0 2) ([x, y].map (.int .i64))) :
    ∃ out1 H9, impl_LessRules.j3 rec k L2 s m out b 0 t plen i H1 = L2 s m out1 t plen ((i : Int) + 1) H9 ∧ H0 <+: H9 ∧ WO H0 H9 out1 (rs ++ [{ kind := 4, sl := Sl.mk false H1.length 0 2, cells := [x, y], value := 0 }]) ∧ But out.blk (H1 ++ [some (Blk.mk false [.int .i64 x, .int .i64 y])]) H9 ∧ H1.length < out1.blk := by
  have r0 : ldI .i64 H1 b (0 + (0 : Int).toNat) = some x := reads_at (own_reads hv) 0 (by simp)
  have r1 : ldI .i64 H1 b (0 + (1 : Int).toNat) = some y := reads_at (own_reads hv) 1 (by simp)
  have z0 : (0 : Int) < ((2 : Nat) : Int) := by decide
  have z1 : (1 : Int) < ((2 : Nat) : Int) := by decide
  have z2 : (0 : Int) ≤ 1 := by decide
  have h4 := wrs (i := i) (by omega)
  have hout := own_lt ho.own
  have e8 := own_new 1 H1 ([x, y].map (.int .i64)) 2 rfl
  have g8 : H1 <+: H1 ++ [some (Blk.mk false ([x, y].map (.int .i64)))] := List.prefix_append _ _
  obtain ⟨out1, H9, c1, c2, c3, c4, c5, c6⟩ := wo_app (ho.pf g8) (hp.trans g8) (by omega) { kind := 4, sl := Sl.mk false H1.length 0 2, cells := [x, y], value := 0 } (own_base e8 hp) (by simp only; omega) (fun i hi => by have := own_lt (ho.oc i hi); simp only; omega)
  refine ⟨out1, H9, ?_, c2, c3, c4, by rw [c5]; simp⟩
  simp only [R.av, List.map_cons, List.map_nil] at c1
  simp only [impl_LessRules.j3, impl_LessRules.j5, z0, z1, z2, Int.le_refl, decide_true, Bool.and_self, cond_true, Nat.mul_one, r0, r1, Option.bind_some, c1, h4]

theorem implLess_l2 (rec : Rec) (k : Nat) {H0 : Hp} {s t : Sl} {g : List Int} {ps : List (Int × Int)} {m : Int} {K : Sl → Hp → An} (hs : Reads .i64 H0 s g) (hps : ∀ p ∈ ps, (0 ≤ p.1 ∧ p.1 < (g.length : Int)) ∧ (0 ≤ p.2 ∧ p.2 < (g.length : Int))) (hpl : ps.length ≤ 1000) :
    ∀ (j i fuel : Nat) (H : Hp) (out : Sl) (rs : List R), i + j = ps.length → j < fuel → H0 <+: H → WO H0 H out rs → rs.length = i → ReadsP H t ps → t.blk ≠ out.blk →
      ∃ out' rs' H', impl_LessRules.l2 rec k fuel s m out t ps.length i H = impl_LessRules.j4 rec k m out' H' ∧ H0 <+: H' ∧ WO H0 H' out' rs' ∧ rs'.map R.val = rs.map R.val ++ (ps.drop i).map (lessR g) := by
  intro j
  induction j with
  | zero =>
    intro i fuel H out rs hi hf hp ho hrl ht hne
    obtain ⟨fuel, rfl⟩ : ∃ q, fuel = q + 1 := ⟨fuel - 1, by omega⟩
    refine ⟨out, rs, H, ?_, hp, ho, by rw [List.drop_eq_nil_of_le (by omega)]; simp⟩
    simp [impl_LessRules.l2, show ¬ i < ps.length by omega]
  | succ j ih =>
    intro i fuel H out rs hi hf hp ho hrl ht hne
    obtain ⟨fuel, rfl⟩ : ∃ q, fuel = q + 1 := ⟨fuel - 1, by omega⟩
    have hi1 : i < ps.length := by omega
    have hlt := cell_lt (ht.c0 i hi1)
    obtain ⟨⟨p0, p1⟩, p2, p3⟩ := hps _ (List.getElem_mem hi1)
    rw [List.drop_eq_getElem_cons hi1, List.map_cons]
    have hl0 : ldI .i64 H t.blk (t.off + i * 2) = some ps[i].1 := by unfold ldI; rw [ht.c0 i hi1]; simp [AV.toI]
    have hl1 : ldI .i64 H t.blk (t.off + i * 2 + 1) = some ps[i].2 := by unfold ldI; rw [ht.c1 i hi1]; simp [AV.toI]
    generalize ps[i] = p at *
    obtain ⟨H7, a1, a2, a3, a4⟩ := pair_var H p.1 p.2
    have r0 : ldI .i64 H7 H.length (0 + (0 : Int).toNat) = some p.1 := reads_at (own_reads a3) 0 (by simp)
    have r1 : ldI .i64 H7 H.length (0 + (1 : Int).toNat) = some p.2 := reads_at (own_reads a3) 1 (by simp)
    have g0 := gv_at (pf_reads (hp.trans a2) hs) p0 p1
    have g1 := gv_at (pf_reads (hp.trans a2) hs) p2 p3
    have q0 : (0 : Int) ≤ (i : Int) := by omega
    have q1 : (i : Int) < (ps.length : Int) := by omega
    have q2 : (i : Int) < (t.len : Int) := by rw [ht.len]; omega
    have q3 : p.1 < (s.len : Int) := by rw [hs.len]; exact p1
    have q4 : p.2 < (s.len : Int) := by rw [hs.len]; exact p3
    have z0 : (0 : Int) < ((2 : Nat) : Int) := by decide
    have z1 : (1 : Int) < ((2 : Nat) : Int) := by decide
    have z2 : (0 : Int) ≤ 1 := by decide
    have hout := own_lt ho.own
    have fin : ∀ (H1 : Hp) (x y : Int), H <+: H1 → Own 1 H H1 (Sl.mk false H.length 0 2) ([x, y].map (.int .i64)) → lessP g p = (x, y) →
        ∃ out' rs' H', impl_LessRules.j3 rec k (impl_LessRules.l2 rec k fuel) s m out H.length 0 t ps.length i H1 = impl_LessRules.j4 rec k m out' H' ∧ H0 <+: H' ∧ WO H0 H' out' rs' ∧ rs'.map R.val = rs.map R.val ++ (lessR g p :: (ps.drop (i + 1)).map (lessR g)) := by
      intro H1 x y hp1 hv hx
      obtain ⟨out1, H9, c1, c2, c3, c4, c5⟩ := implLess_j3 rec k (impl_LessRules.l2 rec k fuel) (s := s) (t := t) (m := m) (plen := ps.length) (i := i) (hp.trans hp1) (ho.pf hp1) (by omega) (by omega) hv
      obtain ⟨out', rs', H', d1, d2, d3, d4⟩ := ih (i + 1) fuel H9 out1 _ (by omega) (by omega) c2 c3 (by simp [hrl]) (c4.readsP hne (pf_readsP (hp1.trans (List.prefix_append _ _)) ht)) (by have := hp1.length_le; omega)
      push_cast at d1
      refine ⟨out', rs', H', c1.trans d1, d2, d3, ?_⟩
      rw [d4]
      simp [R.val, lessR, hx]
    by_cases c : gv g p.1 > gv g p.2
    · obtain ⟨H14, s1, s2, s3, s4, s5⟩ := own_set a3 a2 0 (by simp) p.2
      obtain ⟨H15, u1, u2, u3, u4, u5⟩ := own_set s3 s2 1 (by simp) p.1
      obtain ⟨out', rs', H', d1, d2, d3, d4⟩ := fin H15 p.2 p.1 u2 u3 (by unfold lessP; rw [if_pos c])
      refine ⟨out', rs', H', ?_, d2, d3, d4⟩
      have s1' : H7.sto H.length (0 + (0 : Int).toNat) [.int .i64 p.2] = some H14 := s1
      have u1' : H14.sto H.length (0 + (1 : Int).toNat) [.int .i64 p.1] = some H15 := u1
      simp only [impl_LessRules.l2, q0, q1, q2, q3, q4, p0, p2, z0, z1, z2, c, Int.le_refl, decide_true, Bool.and_self, cond_true, Int.toNat_natCast, Nat.mul_one, hl0, hl1, a1, r0, r1, g0, g1, Option.bind_some, s1', u1', d1]
    · obtain ⟨out', rs', H', d1, d2, d3, d4⟩ := fin H7 p.1 p.2 a2 a3 (by unfold lessP; rw [if_neg c])
      refine ⟨out', rs', H', ?_, d2, d3, d4⟩
      simp only [impl_LessRules.l2, q0, q1, q2, q3, q4, p0, p2, z0, z1, z2, c, Int.le_refl, decide_true, decide_false, Bool.and_self, cond_true, cond_false, Int.toNat_natCast, Nat.mul_one, hl0, hl1, a1, r0, r1, g0, g1, Option.bind_some, d1]

theorem clip_ok {k : Nat} (hk : 1 ≤ k) (s : Sl) (H : Hp) : callF PP orc k slices_Clip___impl_Rule_impl_Rule_.id [.sl 3 s] H = some (.sl 3 s, H) := by
  obtain ⟨k, rfl⟩ : ∃ m, k = m + 1 := ⟨k - 1, by omega⟩
  rw [slices_Clip___impl_Rule_impl_Rule_.call]
  unfold slices_Clip___impl_Rule_impl_Rule_.f
  rw [if_pos (by simp)]
  simp

theorem WO.take {H0 H : Hp} {s : Sl} {rs : List R} (h : WO H0 H s rs) (m : Nat) (hm : m ≤ rs.length) : OwnR H0 H (Sl.mk s.nil s.blk s.off m) (rs.take m) := by
  have hg : ∀ i, (hi : i < (rs.take m).length) → ∃ h' : i < rs.length, (rs.take m)[i] = rs[i] := fun i hi => ⟨by simp at hi; omega, by simp⟩
  refine ⟨by simp; omega, fun _ => ⟨h.own.off, h.own.blk, (rs.drop m).flatMap R.av, ?_⟩, fun i hi => ?_, fun i hi => ?_, fun i j hi hj hij => ?_⟩
  · rw [← List.flatMap_append, List.take_append_drop]; exact h.own.get
  · obtain ⟨h', e⟩ := hg i hi; rw [e]; exact h.oc i h'
  · obtain ⟨h', e⟩ := hg i hi; rw [e]; exact h.ne i h'
  · obtain ⟨h', e⟩ := hg i hi; obtain ⟨h'', e'⟩ := hg j hj; rw [e, e']; exact h.inj i j h' h'' hij

theorem implLess_ok {k : Nat} (hk : 2000004 ≤ k) {H : Hp} {s : Sl} {g : List Int} (n d : Int) (hs : Reads .i64 H s g) (hl : g.length ≤ 1048576) :
    ∃ t rs H', callF PP orc k impl_LessRules.id [.sl 1 s, .int .i64 n, .int .i64 d] H = some (.sl 3 t, H') ∧ H <+: H' ∧ OwnR H H' t rs ∧ rs.map R.val = lessV g n d := by
  obtain ⟨k, rfl⟩ : ∃ m, k = m + 1 := ⟨k - 1, by omega⟩
  rw [impl_LessRules.call]
  obtain ⟨H1, a1, a2⟩ := implSquareSolved_ok (show 2000003 ≤ k by omega) n hs hl
  have nil : ∀ H1, OwnR H H1 Sl.none [] := fun H1 => ⟨rfl, fun h => absurd rfl h, fun i hi => absurd hi (Nat.not_lt_zero _), fun i hi => absurd hi (Nat.not_lt_zero _), fun i j hi => absurd hi (Nat.not_lt_zero _)⟩
  cases hsq : squareSolved g n with
  | false =>
    refine ⟨Sl.none, [], H1, ?_, a2, nil _, by unfold lessV; rw [if_neg (by simp [hsq])]; rfl⟩
    simp only [impl_LessRules.f, impl_LessRules.j0, a1, Option.bind_some, AV.toB, hsq, Bool.not_false, cond_true]
  | true =>
    have hg := solved_ok hsq
    obtain ⟨⟨n1, n2⟩, n3, n4⟩ := (gridOk_iff g n).1 hg
    by_cases c1 : d < 0
    · refine ⟨Sl.none, [], H1, ?_, a2, nil _, by unfold lessV; rw [if_neg (by omega)]; rfl⟩
      simp only [impl_LessRules.f, impl_LessRules.j0, a1, Option.bind_some, AV.toB, hsq, Bool.not_true, cond_false, cond_true, c1, decide_true]
    · by_cases c2 : d > 20
      · refine ⟨Sl.none, [], H1, ?_, a2, nil _, by unfold lessV; rw [if_neg (by omega)]; rfl⟩
        simp only [impl_LessRules.f, impl_LessRules.j0, a1, Option.bind_some, AV.toB, hsq, Bool.not_true, cond_false, cond_true, c1, c2, decide_true, decide_false]
      · obtain ⟨t, H2, b1, b2, b3⟩ := neighbours_ok (show 2000000 ≤ k by omega) ⟨n1, n2⟩ (H1 ++ [some (Blk.mk false [])])
        have hpl := pairs_len n ⟨n1, n2⟩
        have htl : t.len = (pairs n).length := (own_readsP b3).len
        obtain ⟨out', rs', H', e1, e2, e3, e4⟩ := implLess_l2 (callF PP orc k) k (m := d) (s := s) (t := t) (ps := pairs n) (K := fun _ _ => none) hs (fun p hp => by rw [n3]; exact pairs_mem n ⟨n1, n2⟩ p hp) (by omega)
          (pairs n).length 0 k H2 (Sl.mk false H1.length 0 0) [] (by omega) (by omega) (a2.trans ((List.prefix_append _ _).trans b2))
          ⟨own_pf (own_base (own_new 3 H1 [] 0 rfl) a2) b2, fun i hi => absurd hi (Nat.not_lt_zero _), fun i hi => absurd hi (Nat.not_lt_zero _), fun i j hi => absurd hi (Nat.not_lt_zero _)⟩ rfl (own_readsP b3)
          (by have := b3.blk; simp only [List.length_append, List.length_singleton] at this; simp only; omega)
        have hol := own_len3 e3.own
        have hrl : rs'.length = (pairs n).length := by have := congrArg List.length e4; simpa using this
        obtain ⟨m, rfl⟩ := Int.eq_ofNat_of_zero_le (show 0 ≤ d by omega)
        have hmn : mn (m : Int) (out'.len : Int) = ((min m rs'.length : Nat) : Int) := by unfold mn; split <;> omega
        refine ⟨_, rs'.take (min m rs'.length), H', ?_, e2, e3.take (min m rs'.length) (by omega), ?_⟩
        · simp only [impl_LessRules.f, impl_LessRules.j0, impl_LessRules.j1, a1, Option.bind_some, AV.toB, hsq, Bool.not_true, cond_false, cond_true, c1, c2, decide_true, decide_false, b1, AV.toS, if_true, htl]
          refine Eq.trans e1 ?_
          unfold impl_LessRules.j4
          rw [hmn, if_pos ⟨⟨by omega, by omega, by omega, rfl⟩, by omega, rfl⟩, clip_ok (by omega)]
          simp [AV.toS]
        · unfold lessV
          rw [if_pos ⟨hsq, by omega, by omega⟩, List.map_take, e4]
          simp only [List.map_nil, List.nil_append, List.drop_zero, Int.toNat_natCast, hrl]
          apply List.ext_getElem?
          intro i
          simp only [List.getElem?_take, List.getElem?_map]
          by_cases hi : i < m
          · by_cases hi2 : i < (pairs n).length
            · rw [if_pos (by omega), if_pos hi]
            · rw [if_neg (by omega), if_pos hi, List.getElem?_eq_none (by omega)]; rfl
          · rw [if_neg (by omega), if_neg hi]
end Go.Proofs.Ytncmneliinbjdaa.Rp
