/- Texts for the row of the law FnMasksCount, part 13: the plain machine, the program's functions on it, what they come to. No conditions. -/
import Derived.Test.YtjojhbdghhmeeaaBuFnMasksCount12
import Derived.Test.YtjojhbdghhmeeaaBuFnMasksCount11
import Derived.Test.YtjojhbdghhmeeaaBuFnMasksCount8
/- The first and the second technique: the program's own side. No conditions. -/
set_option linter.unusedVariables false
set_option linter.unusedSimpArgs false
namespace Go.Proofs.Ytjojhbdghhmeeaa.Rp
open Go Go.RowKit Go.Proofs.Ytjojhbdghhmeeaa.Ab

theorem row_ok {N i kk : Nat} (hN : N = 2 ∨ N = 3 ∨ N = 4) (hi : i ≤ 100) (hk : kk ≤ 100) : IntKind.i64.wrap (IntKind.i64.wrap (IntKind.i64.wrap ((i : Int).tdiv (N : Int)) * (N : Int)) + (kk : Int)) = ((i / N * N + kk : Nat) : Int) ∧ IntKind.i64.wrap (IntKind.i64.wrap ((kk : Int) * (N : Int)) + (i : Int).tmod (N : Int)) = ((kk * N + i % N : Nat) : Int) := by
  rw [tdivN, tmodN]
  have d := Nat.div_le_self i N
  have m : i % N < N := Nat.mod_lt _ (by omega)
  rcases hN with rfl | rfl | rfl
  · rw [wr (n := ((i / 2 : Nat) : Int)) (by omega) (by omega), wr (n := ((i / 2 : Nat) : Int) * ((2 : Nat) : Int)) (by omega) (by omega), wr (n := ((i / 2 : Nat) : Int) * ((2 : Nat) : Int) + (kk : Int)) (by omega) (by omega), wr (n := (kk : Int) * ((2 : Nat) : Int)) (by omega) (by omega), wr (n := (kk : Int) * ((2 : Nat) : Int) + ((i % 2 : Nat) : Int)) (by omega) (by omega)]
    constructor <;> (push_cast; omega)
  · rw [wr (n := ((i / 3 : Nat) : Int)) (by omega) (by omega), wr (n := ((i / 3 : Nat) : Int) * ((3 : Nat) : Int)) (by omega) (by omega), wr (n := ((i / 3 : Nat) : Int) * ((3 : Nat) : Int) + (kk : Int)) (by omega) (by omega), wr (n := (kk : Int) * ((3 : Nat) : Int)) (by omega) (by omega), wr (n := (kk : Int) * ((3 : Nat) : Int) + ((i % 3 : Nat) : Int)) (by omega) (by omega)]
    constructor <;> (push_cast; omega)
  · rw [wr (n := ((i / 4 : Nat) : Int)) (by omega) (by omega), wr (n := ((i / 4 : Nat) : Int) * ((4 : Nat) : Int)) (by omega) (by omega), wr (n := ((i / 4 : Nat) : Int) * ((4 : Nat) : Int) + (kk : Int)) (by omega) (by omega), wr (n := (kk : Int) * ((4 : Nat) : Int)) (by omega) (by omega), wr (n := (kk : Int) * ((4 : Nat) : Int) + ((i % 4 : Nat) : Int)) (by omega) (by omega)]
    constructor <;> (push_cast; omega)
theorem peer_iff {N x i : Nat} (hN : N = 2 ∨ N = 3 ∨ N = 4) (hx : x < N * N) (hi : i < N * N) : (∃ u, u < N ∧ (x = i / N * N + u ∨ x = u * N + i % N) ∧ x ≠ i) ↔ peer N x i := by
  unfold peer
  constructor
  · rintro ⟨u, hu, h, hne⟩
    refine ⟨hne, ?_⟩
    rcases hN with rfl | rfl | rfl <;> omega
  · rintro ⟨hne, h⟩
    rcases h with h | h
    · refine ⟨x % N, Nat.mod_lt _ (by omega), .inl ?_, hne⟩
      rcases hN with rfl | rfl | rfl <;> omega
    · refine ⟨x / N, ?_, .inr ?_, hne⟩
      · rcases hN with rfl | rfl | rfl <;> omega
      · rcases hN with rfl | rfl | rfl <;> omega
theorem iSing_l4 (rec : Rec) (k : Nat) (L0 : Int → Sl → Sl → Int → Int → Hp → An) (L2 : Int → Sl → Int → Int → Sl → Int → Int → Int → Int → Hp → An) {H0 Hb : Hp} {n x18 x19 x27 x28 m : Int} {i : Nat} {t xs x17 : Sl} {l cs : List Int} (hm : M m) (hcl : cs.length ≤ 10) (hin : ∀ c ∈ cs, 0 ≤ c ∧ c < (l.length : Int)) (hl : l.length ≤ 100) (htb : t.blk < Hb.length) :
    ∀ (j q fuel : Nat) (H : Hp) (a : List Int) (P : Nat → Nat → Prop), q + j = cs.length → j < fuel → H0 <+: H → Own 1 Hb H xs (cs.map (.int .i64)) → Own 1 H0 H t (a.map (.int .i64)) → Sub l a P →
      ∃ H' a', impl_NarrowSingles.l4 rec k L0 L2 fuel n t i m x17 x18 x19 x27 x28 xs (cs.length : Int) q H = L2 n t i m x17 x18 x19 x27 (IntKind.i64.wrap (x28 + 1)) H' ∧ H0 <+: H' ∧ Own 1 H0 H' t (a'.map (.int .i64)) ∧ Adv t.blk H H' ∧ Sub l a' (fun x v => P x v ∨ ∃ u, q ≤ u ∧ u < cs.length ∧ (x : Int) = cs.getD u 0 ∧ x ≠ i ∧ has m v = true) := by
  intro j
  induction j with
  | zero =>
    intro q fuel H a P hq hf hp hx ho hs
    obtain ⟨fuel, rfl⟩ : ∃ q, fuel = q + 1 := ⟨fuel - 1, by omega⟩
    refine ⟨H, a, ?_, hp, ho, Adv.refl _ _, hs.congr fun x v hx => ⟨.inl, by rintro (h | ⟨u, h1, h2, _⟩); exact h; omega⟩⟩
    simp (disch := omega) only [impl_NarrowSingles.l4, impl_NarrowSingles.j6, df, cond_false]
  | succ j ih =>
    intro q fuel H a P hq hf hp hx ho hs
    obtain ⟨fuel, rfl⟩ : ∃ q, fuel = q + 1 := ⟨fuel - 1, by omega⟩
    have hq2 : q < cs.length := by omega
    obtain ⟨c0, c1⟩ := hin _ (mem_getD hq2)
    have hal := hs.len
    have htl := (own_reads ho).len
    have hxl := (own_reads hx).len
    have hrx := rdn (own_reads hx) hq2
    obtain ⟨c, hc⟩ := Int.eq_ofNat_of_zero_le c0
    rw [hc] at hrx c1
    by_cases e : c = i
    · obtain ⟨H', a', b1, b2, b3, b4, b5⟩ := ih (q + 1) fuel H a P (by omega) (by omega) hp hx ho hs
      push_cast at b1
      refine ⟨H', a', ?_, b2, b3, b4, b5.congr fun x v hxl => ?_⟩
      · simp (disch := omega) only [impl_NarrowSingles.l4, impl_NarrowSingles.j5, dt, nf, Bool.and_self, cond_true, cond_false, Int.toNat_natCast, Option.bind_some, hrx, wr (n := (q : Int) + 1), b1]
      · constructor
        · rintro (h | ⟨u, h1, h2⟩)
          · exact .inl h
          · exact .inr ⟨u, by omega, h2⟩
        · rintro (h | ⟨u, h1, h2, h3, h4, h5⟩)
          · exact .inl h
          · refine .inr ⟨u, ?_, h2, h3, h4, h5⟩
            by_cases eu : u = q
            · subst eu; rw [hc] at h3; omega
            · omega
    · obtain ⟨H1, a1, a2, a3, a4⟩ := own_set1 ho hp c (by omega) (mSub (a.getD c 0) m)
      obtain ⟨H', a', b1, b2, b3, b4, b5⟩ := ih (q + 1) fuel H1 _ _ (by omega) (by omega) a2 (a4.own htb hx) a3 (hs.step c (by omega) hm)
      push_cast at b1
      refine ⟨H', a', ?_, b2, b3, a4.trans b4, b5.congr fun x v hxl => ?_⟩
      · simp (disch := omega) only [impl_NarrowSingles.l4, impl_NarrowSingles.j5, dt, nt, Bool.and_self, cond_true, Int.toNat_natCast, Option.bind_some, hrx, rdn (own_reads ho), m_sub (hs.ms.at c) hm, a1, wr (n := (q : Int) + 1), b1]
      · constructor
        · rintro ((h | ⟨h1, h2⟩) | ⟨u, h1, h2⟩)
          · exact .inl h
          · exact .inr ⟨q, Nat.le_refl _, hq2, by rw [hc, h1], by omega, h2⟩
          · exact .inr ⟨u, by omega, h2⟩
        · rintro (h | ⟨u, h1, h2, h3, h4, h5⟩)
          · exact .inl (.inl h)
          · by_cases eu : u = q
            · subst eu; rw [hc] at h3; exact .inl (.inr ⟨by omega, h5⟩)
            · exact .inr ⟨u, by omega, h2, h3, h4, h5⟩
theorem iSing_l2 (rec : Rec) (k : Nat) (hk : 100 ≤ k) (L0 : Int → Sl → Sl → Int → Int → Hp → An) {H0 : Hp} {N i : Nat} {x18 m : Int} {t x17 : Sl} {l : List Int} (hN : N = 2 ∨ N = 3 ∨ N = 4) (hl : l.length = N * N) (hi : i < l.length) (hm : M m) :
    ∀ (j kk fuel : Nat) (H : Hp) (a : List Int) (P : Nat → Nat → Prop), kk + j = N → j < fuel → H0 <+: H → Own 1 H0 H t (a.map (.int .i64)) → Sub l a P →
      ∃ H' a', impl_NarrowSingles.l2 rec k L0 fuel (N : Int) t i m x17 x18 i (N : Int) kk H = L0 (N : Int) t x17 x18 ((i : Int) + 1) H' ∧ H0 <+: H' ∧ Own 1 H0 H' t (a'.map (.int .i64)) ∧ Sub l a' (fun x v => P x v ∨ ∃ u, kk ≤ u ∧ u < N ∧ (x = i / N * N + u ∨ x = u * N + i % N) ∧ x ≠ i ∧ has m v = true) := by
  have hl16 : l.length ≤ 16 := by rcases hN with rfl | rfl | rfl <;> omega
  intro j
  induction j with
  | zero =>
    intro kk fuel H a P hq hf hp ho hs
    obtain ⟨fuel, rfl⟩ : ∃ q, fuel = q + 1 := ⟨fuel - 1, by omega⟩
    refine ⟨H, a, ?_, hp, ho, hs.congr fun x v hx => ⟨.inl, by rintro (h | ⟨u, h1, h2, _⟩); exact h; omega⟩⟩
    simp (disch := omega) only [impl_NarrowSingles.l2, impl_NarrowSingles.j1, df, cond_false, wr (n := (i : Int) + 1)]
  | succ j ih =>
    intro kk fuel H a P hq hf hp ho hs
    obtain ⟨fuel, rfl⟩ : ∃ q, fuel = q + 1 := ⟨fuel - 1, by omega⟩
    obtain ⟨r1, r2⟩ := row_ok (i := i) (kk := kk) hN (by omega) (by omega)
    have q1 : H <+: H ++ [some (Blk.mk false (([((i / N * N + kk : Nat) : Int), ((kk * N + i % N : Nat) : Int)] : List Int).map (.int .i64)))] := List.prefix_append _ _
    have hnew := own_new 1 H (([((i / N * N + kk : Nat) : Int), ((kk * N + i % N : Nat) : Int)] : List Int).map (.int .i64)) 2 rfl
    obtain ⟨H1, a1, b1, b2, b3, b4, b5⟩ := iSing_l4 rec k L0 (impl_NarrowSingles.l2 rec k L0 fuel) (n := (N : Int)) (x17 := x17) (x18 := x18) (x19 := (i : Int)) (x27 := (N : Int)) (x28 := (kk : Int)) (i := i) hm (cs := [((i / N * N + kk : Nat) : Int), ((kk * N + i % N : Nat) : Int)]) (l := l) (by simp) (fun c hc => by
      simp only [List.mem_cons, List.not_mem_nil, or_false] at hc
      rcases hN with rfl | rfl | rfl <;> omega) (by omega) (own_lt' ho) 2 0 k (H ++ [some (Blk.mk false (([((i / N * N + kk : Nat) : Int), ((kk * N + i % N : Nat) : Int)] : List Int).map (.int .i64)))]) a P (by simp) (by omega) (hp.trans q1) hnew (own_pf ho q1) hs
    obtain ⟨H', a', d1, d2, d3, d4⟩ := ih (kk + 1) fuel H1 a1 _ (by omega) (by omega) b2 b3 b5
    push_cast at d1
    refine ⟨H', a', ?_, d2, d3, d4.congr fun x v hxl => ?_⟩
    · simp only [List.map_cons, List.map_nil, List.length_cons, List.length_nil, Int.natCast_zero] at b1
      simp (disch := omega) only [impl_NarrowSingles.l2, dt, cond_true, iN (show ¬ ((N : Int) = 0) by omega), r1, r2]
      refine Eq.trans b1 ?_
      rw [wr (n := (kk : Int) + 1) (by omega) (by omega)]
      exact d1
    · constructor
      · rintro ((h | ⟨u, h1, h2, h3, h4⟩) | ⟨u, h1, h2⟩)
        · exact .inl h
        · have : u = 0 ∨ u = 1 := by simp at h2; omega
          rcases this with rfl | rfl
          · exact .inr ⟨kk, Nat.le_refl _, by omega, .inl (by simpa using Int.ofNat_inj.1 h3), h4⟩
          · exact .inr ⟨kk, Nat.le_refl _, by omega, .inr (by simpa using Int.ofNat_inj.1 h3), h4⟩
        · exact .inr ⟨u, by omega, h2⟩
      · rintro (h | ⟨u, h1, h2, h3, h4⟩)
        · exact .inl (.inl h)
        · by_cases eu : u = kk
          · subst eu
            rcases h3 with h3 | h3
            · exact .inl (.inr ⟨0, by omega, by simp, by rw [h3]; rfl, h4⟩)
            · exact .inl (.inr ⟨1, by omega, by simp, by rw [h3]; rfl, h4⟩)
          · exact .inr ⟨u, by omega, h2, h3, h4⟩
theorem iSing_l0 {k : Nat} (hk : 2000000 ≤ k) {H0 : Hp} {ms t : Sl} {l : List Int} {N : Nat} {n : Int} (hN : N = 2 ∨ N = 3 ∨ N = 4) (hnN : n = (N : Int)) (hm : Reads .i64 H0 ms l) (hv : masksOk n l = true) (hll : l.length = N * N) :
    ∀ (j i fuel : Nat) (H : Hp) (a : List Int) (P : Nat → Nat → Prop), i + j = l.length → j < fuel → H0 <+: H → Own 1 H0 H t (a.map (.int .i64)) → Sub l a P →
      ∃ H' a', impl_NarrowSingles.l0 (callF PP orc k) k fuel (N : Int) t ms (l.length : Int) i H = some (.sl 1 t, H') ∧ H0 <+: H' ∧ Own 1 H0 H' t (a'.map (.int .i64)) ∧ Sub l a' (fun x v => P x v ∨ ∃ q, i ≤ q ∧ q < l.length ∧ peer N x q ∧ single (l.getD q 0) = true ∧ has (l.getD q 0) v = true) := by
  have hml := hm.len
  have hM := masks_M hv
  have hl16 : l.length ≤ 16 := by rcases hN with rfl | rfl | rfl <;> omega
  intro j
  induction j with
  | zero =>
    intro i fuel H a P hi hf hp ho hs
    obtain ⟨fuel, rfl⟩ : ∃ q, fuel = q + 1 := ⟨fuel - 1, by omega⟩
    refine ⟨H, a, ?_, hp, ho, hs.congr fun x v hx => ⟨.inl, by rintro (h | ⟨q, h1, h2, _⟩); exact h; omega⟩⟩
    simp (disch := omega) only [impl_NarrowSingles.l0, impl_NarrowSingles.j3, df, cond_false]
  | succ j ih =>
    intro i fuel H a P hi hf hp ho hs
    obtain ⟨fuel, rfl⟩ : ∃ q, fuel = q + 1 := ⟨fuel - 1, by omega⟩
    have hi2 : i < l.length := by omega
    have hrd := pf_reads hp hm
    have h1 := onlyValue_ok hk (masks_at hv hi2) H
    obtain ⟨o1, o2⟩ := oneOf_single (masks_at hv hi2)
    cases es : single (l.getD i 0) with
    | true =>
      have h0 := (o2 es).2
      obtain ⟨H2, a', b1, b2, b3, b4⟩ := iSing_l2 (callF PP orc k) k (by omega) (impl_NarrowSingles.l0 (callF PP orc k) k fuel) (x17 := ms) (x18 := (l.length : Int)) hN hll hi2 (hM.at i) N 0 k H a P (by omega) (by omega) hp ho hs
      obtain ⟨H', a'', d1, d2, d3, d4⟩ := ih (i + 1) fuel H2 a' _ (by omega) (by omega) b2 b3 b4
      push_cast at d1
      refine ⟨H', a'', ?_, d2, d3, d4.congr fun x v hx => ?_⟩
      · simp only [Int.natCast_zero] at b1
        simp (disch := omega) only [impl_NarrowSingles.l0, dt, bf, Bool.and_self, cond_true, cond_false, Int.toNat_natCast, Option.bind_some, AV.toI, if_true, rdn hrd, h1, b1, d1]
      · constructor
        · rintro ((h | ⟨u, _, h2, h3, h4, h5⟩) | ⟨q, h1, h2⟩)
          · exact .inl h
          · exact .inr ⟨i, Nat.le_refl _, hi2, (peer_iff hN (by omega) (by omega)).1 ⟨u, h2, h3, h4⟩, es, h5⟩
          · exact .inr ⟨q, by omega, h2⟩
        · rintro (h | ⟨q, h1, h2, h3, h4, h5⟩)
          · exact .inl (.inl h)
          · by_cases e : q = i
            · subst e
              obtain ⟨u, u1, u2, u3⟩ := (peer_iff hN (by omega) (by omega)).2 h3
              exact .inl (.inr ⟨u, by omega, u1, u2, u3, h5⟩)
            · exact .inr ⟨q, by omega, h2, h3, h4, h5⟩
    | false =>
      have h0 := o1.2 es
      obtain ⟨H', a'', d1, d2, d3, d4⟩ := ih (i + 1) fuel H a P (by omega) (by omega) hp ho hs
      push_cast at d1
      refine ⟨H', a'', ?_, d2, d3, d4.congr fun x v hx => ?_⟩
      · simp (disch := omega) only [impl_NarrowSingles.l0, impl_NarrowSingles.j1, dt, bt, Bool.and_self, cond_true, cond_false, Int.toNat_natCast, Option.bind_some, AV.toI, if_true, rdn hrd, h1, wr (n := (i : Int) + 1), d1]
      · constructor
        · rintro (h | ⟨q, h1, h2⟩)
          · exact .inl h
          · exact .inr ⟨q, by omega, h2⟩
        · rintro (h | ⟨q, h1, h2, h3, h4, h5⟩)
          · exact .inl h
          · refine .inr ⟨q, ?_, h2, h3, h4, h5⟩
            by_cases e : q = i
            · subst e; rw [es] at h4; cases h4
            · omega
theorem implNarrowSingles_ok {k : Nat} (hk : 2000010 ≤ k) {H : Hp} {ms : Sl} {l : List Int} {n : Int} (hb : -1 ≤ n ∧ n ≤ 5) (hm : Reads .i64 H ms l) (hnn : ms.nil = false) (hl : l.length ≤ 1000) (hr : ∀ m ∈ l, -2 ≤ m ∧ m ≤ 63) :
    ∃ t H', callF PP orc k impl_NarrowSingles.id [.sl 1 ms, .int .i64 n] H = some (.sl 1 t, H') ∧ H <+: H' ∧ NilOr H H' t (singlesV n l) := by
  obtain ⟨k, rfl⟩ : ∃ q, k = q + 1 := ⟨k - 1, by omega⟩
  rw [impl_NarrowSingles.call]
  have h1 := implMasksValid_ok (show 2000000 ≤ k by omega) hb hm hl hr
  have hml := hm.len
  unfold singlesV
  cases hv : masksOk n l with
  | false =>
    rw [hv] at h1
    rw [iN (by simp)]
    exact ⟨Sl.none, H, by simp only [impl_NarrowSingles.f, dt, df, bt, bf, nt, nf, Bool.and_self, Bool.not_true, Bool.not_false, cond_true, cond_false, Int.toNat_natCast, Int.toNat_zero, Int.toNat_one, Option.bind_some, wr, AV.toB, AV.toI, AV.toS, if_true, h1], (List.prefix_refl _), .inl ⟨rfl, rfl⟩⟩
  | true =>
    rw [hv] at h1
    rw [ip rfl]
    obtain ⟨l4, l16, lN, hN, n2, n4⟩ := masks_len hv
    have hM := masks_M hv
    have h2 := Clone_own (show 1 ≤ k by omega) hm hnn hl
    have hnew := own_new 1 H (l.map (.int .i64)) l.length (by simp)
    obtain ⟨H', a', b1, b2, b3, b4⟩ := iSing_l0 (show 2000000 ≤ k by omega) (N := n.toNat) (by omega) hN hm hv lN l.length 0 k (H ++ [some (Blk.mk false (l.map (.int .i64)))]) l _ (by omega) (by omega) (List.prefix_append _ _) hnew (Sub.refl hM)
    rw [← hN] at b1
    have e : a' = subAll l (PS n.toNat l) := (b4.congr fun x v hx => (show _ ↔ PS n.toNat l x v from ⟨by rintro (h | ⟨q, _, h⟩); exact h.elim; exact ⟨q, h⟩, fun ⟨q, h⟩ => .inr ⟨q, by omega, h⟩⟩)).eq hM
    subst e
    refine ⟨_, H', ?_, b2, .inr b3⟩
    simp only [Int.natCast_zero] at b1
    simp only [impl_NarrowSingles.f, dt, df, bt, bf, nt, nf, Bool.and_self, Bool.not_true, Bool.not_false, cond_true, cond_false, Int.toNat_natCast, Int.toNat_zero, Int.toNat_one, Option.bind_some, wr, AV.toB, AV.toI, AV.toS, if_true, h1, h2, hml, b1]
end Go.Proofs.Ytjojhbdghhmeeaa.Rp
/- The law FnMasksCount: true whatever it is given. No conditions. -/
set_option linter.unusedVariables false
set_option linter.unusedSimpArgs false
namespace Go.Proofs.Ytjojhbdghhmeeaa.Rp
open Go Go.RowKit Go.Proofs.Ytjojhbdghhmeeaa.Ab

theorem DrawMasksCount_ok {k : Nat} (hk : 2000602 ≤ k) {H : Hp} {s : Sl} {l : List Int} (hs : Reads .u8 H s l) (hb : ∀ x ∈ l, 0 ≤ x ∧ x ≤ 255) : DrawnM H (callF PP orc k spec_DrawMasksCount.id [.sl 1 s] H) := by
  obtain ⟨k, rfl⟩ : ∃ q, k = q + 1 := ⟨k - 1, by omega⟩
  rw [spec_DrawMasksCount.call]
  obtain ⟨H1, n, t, c, l', p', H', a1, a2, a3, a3', a4, a5, a6, a7⟩ := open_masks (show 2000601 ≤ k by omega) hs hb (x1 := 9) (by omega)
  have := a4.drawn a3 a6 a7
  simp only [spec_DrawMasksCount.f, dt, df, bt, bf, nt, nf, Bool.and_self, Bool.not_true, Bool.not_false, cond_true, cond_false, Int.toNat_natCast, Int.toNat_zero, Int.toNat_one, Option.bind_some, wr, AV.toB, AV.toI, AV.toS, if_true, AV.toP, a1, a2, AV.isTup, AV.nth, List.length_cons, List.length_nil, List.getD_cons_zero, List.getD_cons_succ, beq_self_eq_true]
  exact this
theorem MasksCount_law {k : Nat} (hk : 2000800 ≤ k) {H : Hp} {s : Sl} {l : List Int} (hs : Reads .u8 H s l) (hb : ∀ x ∈ l, 0 ≤ x ∧ x ≤ 255) :
    ∃ H', callF PP orc k laws_FnMasksCount.id [.sl 1 s] H = some (.bool true, H') := by
  obtain ⟨k, rfl⟩ : ∃ q, k = q + 1 := ⟨k - 1, by omega⟩
  rw [laws_FnMasksCount.call]
  by_cases hbig : (s.len : Int) > 1048576
  · exact ⟨H, by simp only [laws_FnMasksCount.f, dt hbig, cond_true]⟩
  · obtain ⟨n, t, v, H1, a1, a2, a3, a4, a5, a6, a7, a8⟩ := DrawMasksCount_ok (show 2000602 ≤ k by omega) hs hb
    have b1 := implMasksCount_ok (show 2000010 ≤ k by omega) (n := n) ⟨a7, a8⟩ a3 (by omega) a6
    obtain ⟨H3, c1, c2⟩ := specMasksCount_ok (show 2000010 ≤ k by omega) (n := n) ⟨a7, a8⟩ a3 (by omega)
    unfold laws_FnMasksCount.f
    rw [df hbig, cond_false, a1, Option.bind_some]
    simp only [AV.isTup, AV.nth, AV.toI, AV.toS, List.length_cons, List.length_nil, List.getD_cons_zero, List.getD_cons_succ, if_true, beq_self_eq_true, cond_true, Option.bind_some]
    rw [b1, Option.bind_some]
    simp only [AV.toI, if_true, Option.bind_some]
    rw [c1, Option.bind_some]
    simp only [AV.toI, if_true, Option.bind_some, nf rfl, cond_false]
    cases e : masksOk n v with
    | false =>
      obtain ⟨H4, d1, d2⟩ := alive_ok (show 2000002 ≤ k by omega) H3
      have ec : countV n v = -1 := by unfold countV; rw [e]; rfl
      refine ⟨H4, ?_⟩
      simp only [ec, dt (show (-1 : Int) < 0 by omega), cond_true, beq_self_eq_true, d1, Option.bind_some, AV.toB]
    | true =>
      have ec : countV n v = (total v : Int) := by unfold countV; rw [e]; rfl
      have hn := (masksOk_iff.1 e).1
      have ht := total_n hn v (masksOk_iff.1 e).2.1
      have hl := masks_len e
      obtain ⟨x, H4, d1, d2, d3⟩ := implNarrowSingles_ok (show 2000010 ≤ k by omega) (n := n) ⟨a7, a8⟩ (pf_reads c2 a3) a4 (by omega) a6
      obtain ⟨g1, g2⟩ := singlesV_good e
      have hm := masks_total g1 e g2
      have hx := d3.reads
      have hrg : (singlesV n v).length ≤ 1000 ∧ ∀ m ∈ singlesV n v, -2 ≤ m ∧ m ≤ 63 := masks_rg g1 |> fun h => ⟨by have := h.1; omega, h.2.2⟩
      have f1 := implMasksCount_ok (show 2000010 ≤ k by omega) (n := n) ⟨a7, a8⟩ hx hrg.1 hrg.2
      have ec2 : countV n (singlesV n v) = (total (singlesV n v) : Int) := by unfold countV; rw [g1]; rfl
      have hn3 : (total v : Int) ≤ n * n * n ∧ 0 ≤ n * n ∧ n * n ≤ 16 ∧ 0 ≤ n * n * n ∧ n * n * n ≤ 64 := by
        have hlen := (masksOk_iff.1 e).2.2
        have : n = 2 ∨ n = 3 ∨ n = 4 := by omega
        rcases this with rfl | rfl | rfl <;> simp at ht hlen ⊢ <;> omega
      refine ⟨H4, ?_⟩
      rw [ec2] at f1
      simp (disch := omega) only [ec, df (show ¬ ((total v : Int) < 0) by omega), cond_false, wr (n := n * n), wr (n := n * n * n), dt hn3.1, cond_true, d1, Option.bind_some, AV.toS, if_true, f1, AV.toI]
      rw [dt (show ((total (singlesV n v) : Nat) : Int) ≤ (total v : Int) by omega)]
end Go.Proofs.Ytjojhbdghhmeeaa.Rp
