/- Pairs of neighbouring cells, as both sides make them. No conditions. -/
import Derived.Test.YtncmneliinbjdaaCa
set_option linter.unusedVariables false
set_option linter.unusedSimpArgs false
namespace Go.Proofs.Ytncmneliinbjdaa.Rp
open Go Go.RowKit Go.Proofs.Ytncmneliinbjdaa.Ab

def pairsR (n : Int) (i : Nat) : List (Int × Int) := if (i : Int).tmod n < n - 1 then [((i : Int), (i : Int) + 1)] else []
def pairsD (n : Int) (i : Nat) : List (Int × Int) := if (i : Int).tdiv n < n - 1 then [((i : Int), (i : Int) + n)] else []
def pairsTo (n : Int) (i : Nat) : List (Int × Int) := (List.range i).flatMap fun i => pairsR n i ++ pairsD n i
def pairs (n : Int) : List (Int × Int) := pairsTo n (n * n).toNat
theorem pairsTo_succ (n : Int) (i : Nat) : pairsTo n (i + 1) = pairsTo n i ++ pairsR n i ++ pairsD n i := by
  simp [pairsTo, List.range_succ, List.flatMap_append]
theorem pairsTo_len (n : Int) : ∀ i, (pairsTo n i).length ≤ 2 * i
  | 0 => by simp [pairsTo]
  | i + 1 => by
    have := pairsTo_len n i
    rw [pairsTo_succ]
    simp only [List.length_append]
    have h1 : (pairsR n i).length ≤ 1 := by unfold pairsR; split <;> simp
    have h2 : (pairsD n i).length ≤ 1 := by unfold pairsD; split <;> simp
    omega
theorem pairs_mem : ∀ n : Int, 2 ≤ n ∧ n ≤ 4 → ∀ p ∈ pairs n, (0 ≤ p.1 ∧ p.1 < n * n) ∧ (0 ≤ p.2 ∧ p.2 < n * n) := by
  intro n hn
  have : n = 2 ∨ n = 3 ∨ n = 4 := by omega
  rcases this with rfl | rfl | rfl <;> decide +kernel
theorem pairs_len : ∀ n : Int, 2 ≤ n ∧ n ≤ 4 → (pairs n).length ≤ 24 := by
  intro n hn
  have : n = 2 ∨ n = 3 ∨ n = 4 := by omega
  rcases this with rfl | rfl | rfl <;> decide +kernel

def pav (p : Int × Int) : List AV := [.int .i64 p.1, .int .i64 p.2]
structure ReadsP (H : Hp) (s : Sl) (ps : List (Int × Int)) : Prop where
  len : s.len = ps.length
  c0 : ∀ i, (h : i < ps.length) → H.cell s.blk (s.off + i * 2) = some (.int .i64 ps[i].1)
  c1 : ∀ i, (h : i < ps.length) → H.cell s.blk (s.off + i * 2 + 1) = some (.int .i64 ps[i].2)
theorem pav0 : ∀ (ps : List (Int × Int)) (i : Nat), (h : i < ps.length) → (ps.flatMap pav)[i * 2]? = some (.int .i64 ps[i].1) ∧ (ps.flatMap pav)[i * 2 + 1]? = some (.int .i64 ps[i].2)
  | p :: ps, 0, h => by simp [pav]
  | p :: ps, i + 1, h => by
    have := pav0 ps i (by simpa using h)
    rw [show (i + 1) * 2 = i * 2 + 2 by omega]
    simpa [pav] using this
theorem pav_length (ps : List (Int × Int)) : (ps.flatMap pav).length = ps.length * 2 := by
  induction ps with
  | nil => rfl
  | cons r rs ih => simp [ih, pav]; omega
theorem own_readsP {H0 H : Hp} {s : Sl} {ps : List (Int × Int)} (h : Own 2 H0 H s (ps.flatMap pav)) : ReadsP H s ps :=
  ⟨by have := h.len; rw [pav_length] at this; omega, fun i hi => by rw [own_cell h, (pav0 ps i hi).1], fun i hi => by rw [Nat.add_assoc, own_cell h, (pav0 ps i hi).2]⟩
theorem pf_readsP {H H' : Hp} (g : H <+: H') {s : Sl} {ps : List (Int × Int)} (h : ReadsP H s ps) : ReadsP H' s ps :=
  ⟨h.len, fun i hi => pf_cell g (h.c0 i hi), fun i hi => pf_cell g (h.c1 i hi)⟩
theorem But.readsP {b : Nat} {H H' : Hp} (h : But b H H') {s : Sl} {l : List (Int × Int)} (hs : s.blk ≠ b) (hr : ReadsP H s l) : ReadsP H' s l := ⟨hr.len, fun i hi => h.cell hs (hr.c0 i hi), fun i hi => h.cell hs (hr.c1 i hi)⟩

theorem nb_wraps {n : Int} (hn : 2 ≤ n ∧ n ≤ 4) (i : Nat) (hi : (i : Int) < n * n) :
    IntKind.i64.wrap (n * n) = n * n ∧ IntKind.i64.wrap ((i : Int).tdiv n) = (i : Int).tdiv n ∧ IntKind.i64.wrap (n - 1) = n - 1 ∧ IntKind.i64.wrap ((i : Int) + 1) = (i : Int) + 1 ∧ IntKind.i64.wrap ((i : Int) + n) = (i : Int) + n := by
  have hnn : n * n ≤ 16 := by
    have : n = 2 ∨ n = 3 ∨ n = 4 := by omega
    rcases this with rfl | rfl | rfl <;> decide
  have h0 : 0 ≤ n * n := by omega
  have t0 : 0 ≤ (i : Int).tdiv n := Int.tdiv_nonneg (by omega) (by omega)
  have t1 : (i : Int).tdiv n ≤ (i : Int) := Int.tdiv_le_self _ (by omega)
  exact ⟨wr (by omega) (by omega), wr (by omega) (by omega), wr (by omega) (by omega), wr (by omega) (by omega), wr (by omega) (by omega)⟩

/-- A pair is appended, or not. -/
theorem own_pair {H0 H : Hp} {t : Sl} {ps : List (Int × Int)} (h : Own 2 H0 H t (ps.flatMap pav)) (g : H0 <+: H) (hl : ps.length ≤ 1000) (p : Int × Int) :
    ∃ t' H', H.app 2 t 1 [.int .i64 p.1, .int .i64 p.2] = some (t', H') ∧ H0 <+: H' ∧ Own 2 H0 H' t' ((ps ++ [p]).flatMap pav) := by
  have hlen : t.len = ps.length := by have := h.len; rw [pav_length] at this; omega
  obtain ⟨H', a1, a2, a3, _⟩ := own_app h g 1 [.int .i64 p.1, .int .i64 p.2] (by omega) (by omega) (by omega) (by omega) rfl
  exact ⟨_, H', a1, a2, by simpa [pav] using a3⟩

theorem neighbours_l0 (rec : Rec) (k : Nat) {H0 : Hp} {n : Int} (hn : 2 ≤ n ∧ n ≤ 4) :
    ∀ (j i fuel : Nat) (H : Hp) (t : Sl), (i : Int) + j = n * n → j < fuel → H0 <+: H → Own 2 H0 H t ((pairsTo n i).flatMap pav) →
      ∃ t' H', impl_neighbours.l0 rec k fuel n t (n * n) i H = some (.sl 2 t', H') ∧ H0 <+: H' ∧ Own 2 H0 H' t' ((pairs n).flatMap pav) := by
  have hnn : n * n ≤ 16 := by
    have : n = 2 ∨ n = 3 ∨ n = 4 := by omega
    rcases this with rfl | rfl | rfl <;> decide
  intro j
  induction j with
  | zero =>
    intro i fuel H t hi hf hp ho
    obtain ⟨fuel, rfl⟩ : ∃ q, fuel = q + 1 := ⟨fuel - 1, by omega⟩
    have e : (n * n).toNat = i := by omega
    refine ⟨t, H, ?_, hp, by unfold pairs; rw [e]; exact ho⟩
    have : ¬ ((i : Int) < n * n) := by omega
    simp only [impl_neighbours.l0, impl_neighbours.j2, this, decide_false, cond_false]
  | succ j ih =>
    intro i fuel H t hi hf hp ho
    obtain ⟨fuel, rfl⟩ : ∃ q, fuel = q + 1 := ⟨fuel - 1, by omega⟩
    have hi1 : (i : Int) < n * n := by omega
    obtain ⟨w0, w1, w2, w3, w4⟩ := nb_wraps hn i hi1
    have hz : ¬ (n = 0) := by omega
    have hl := pairsTo_len n i
    have key : ∀ (H : Hp) (t : Sl), H0 <+: H → Own 2 H0 H t ((pairsTo n i ++ pairsR n i).flatMap pav) → ∃ t' H', impl_neighbours.j1 rec k (impl_neighbours.l0 rec k fuel) n t i (n * n) i H = some (.sl 2 t', H') ∧ H0 <+: H' ∧ Own 2 H0 H' t' ((pairs n).flatMap pav) := by
      intro H t hp ho
      have hlR : (pairsR n i).length ≤ 1 := by unfold pairsR; split <;> simp
      by_cases c : (i : Int).tdiv n < n - 1
      · obtain ⟨t1, H1, a1, a2, a3⟩ := own_pair ho hp (by simp; omega) ((i : Int), (i : Int) + n)
        obtain ⟨t', H', b1, b2, b3⟩ := ih (i + 1) fuel H1 t1 (by omega) (by omega) a2 (by
          rw [pairsTo_succ]; unfold pairsD; rw [if_pos c]; exact a3)
        refine ⟨t', H', ?_, b2, b3⟩
        push_cast at b1
        simp only at a1
        simp only [impl_neighbours.j1, impl_neighbours.j3, hz, if_false, w1, w2, w3, w4, c, decide_true, cond_true, a1, Option.bind_some, b1]
      · obtain ⟨t', H', b1, b2, b3⟩ := ih (i + 1) fuel H t (by omega) (by omega) hp (by
          rw [pairsTo_succ]; unfold pairsD; rw [if_neg c, List.append_nil]; exact ho)
        refine ⟨t', H', ?_, b2, b3⟩
        push_cast at b1
        simp only [impl_neighbours.j1, impl_neighbours.j3, hz, if_false, w1, w2, w3, w4, c, decide_false, cond_false, b1]
    by_cases c : (i : Int).tmod n < n - 1
    · obtain ⟨t1, H1, a1, a2, a3⟩ := own_pair ho hp (by omega) ((i : Int), (i : Int) + 1)
      obtain ⟨t', H', b1, b2, b3⟩ := key H1 t1 a2 (by unfold pairsR; rw [if_pos c]; exact a3)
      refine ⟨t', H', ?_, b2, b3⟩
      simp only at a1
      simp only [impl_neighbours.l0, hi1, decide_true, cond_true, hz, if_false, w2, w3, c, a1, Option.bind_some, b1]
    · obtain ⟨t', H', b1, b2, b3⟩ := key H t hp (by unfold pairsR; rw [if_neg c, List.append_nil]; exact ho)
      refine ⟨t', H', ?_, b2, b3⟩
      simp only [impl_neighbours.l0, hi1, decide_true, decide_false, cond_true, cond_false, hz, if_false, w2, w3, c, b1]

theorem neighbours_ok {k : Nat} (hk : 2000000 ≤ k) {n : Int} (hn : 2 ≤ n ∧ n ≤ 4) (H : Hp) :
    ∃ t H', callF PP orc k impl_neighbours.id [.int .i64 n] H = some (.sl 2 t, H') ∧ H <+: H' ∧ Own 2 H H' t ((pairs n).flatMap pav) := by
  obtain ⟨k, rfl⟩ : ∃ m, k = m + 1 := ⟨k - 1, by omega⟩
  rw [impl_neighbours.call]
  have hnn : 0 ≤ n * n ∧ n * n ≤ 16 := by
    have : n = 2 ∨ n = 3 ∨ n = 4 := by omega
    rcases this with rfl | rfl | rfl <;> decide
  obtain ⟨t, H', a1, a2, a3⟩ := neighbours_l0 (callF PP orc k) k hn (n * n).toNat 0 k (H ++ [some (Blk.mk false [])]) (Sl.mk false H.length 0 0) (by omega) (by omega) (List.prefix_append _ _) (own_new 2 H [] 0 rfl)
  refine ⟨t, H', ?_, a2, a3⟩
  have w := wr (n := n * n) (by omega) (by omega)
  simp only [impl_neighbours.f, w]
  exact a1

/-- Pairs as slices of two. -/
structure WholeP (H0 H : Hp) (s : Sl) (ss : List Sl) (ps : List (Int × Int)) : Prop where
  own : Own 1 H0 H s (ss.map (.sl 1))
  len : ss.length = ps.length
  rd : ∀ i, (h : i < ss.length) → (h' : i < ps.length) → Reads .i64 H ss[i] [ps[i].1, ps[i].2]
  ne : ∀ i, (h : i < ss.length) → ss[i].blk ≠ s.blk
  lt : ∀ i, (h : i < ss.length) → ss[i].blk < H.length
theorem WholeP.pf {H0 H H' : Hp} {s : Sl} {ss : List Sl} {ps : List (Int × Int)} (h : WholeP H0 H s ss ps) (g : H <+: H') : WholeP H0 H' s ss ps :=
  ⟨own_pf h.own g, h.len, fun i a b => pf_reads g (h.rd i a b), h.ne, fun i a => Nat.lt_of_lt_of_le (h.lt i a) g.length_le⟩
theorem wholeP_app {H0 H : Hp} {t : Sl} {ss : List Sl} {ps : List (Int × Int)} (h : WholeP H0 H t ss ps) (g : H0 <+: H) (hl : ps.length ≤ 1000) (p : Int × Int) :
    ∃ t' ss' H', (H ++ [some (Blk.mk false [.int .i64 p.1, .int .i64 p.2])]).app 1 t 1 [.sl 1 (Sl.mk false H.length 0 2)] = some (t', H') ∧ H0 <+: H' ∧ WholeP H0 H' t' ss' (ps ++ [p]) := by
  have h1 := h.pf (List.prefix_append H [some (Blk.mk false [.int .i64 p.1, .int .i64 p.2])])
  have hlen : t.len = ps.length := by have := h.own.len; simp [h.len] at this; exact this
  have hnew := own_new 1 H [.int .i64 p.1, .int .i64 p.2] 2 rfl
  have hb := (List.getElem?_eq_some_iff.1 h.own.get).1
  obtain ⟨H', a1, a2, a3, a4, a5⟩ := own_app h1.own (g.trans (List.prefix_append _ _)) 1 [.sl 1 (Sl.mk false H.length 0 2)] (by omega) (by omega) (by omega) (by omega) rfl
  refine ⟨_, ss ++ [Sl.mk false H.length 0 2], H', a1, a2, ⟨by simpa using a3, by simp [h.len], fun i hi hi' => ?_, fun i hi => ?_, fun i hi => ?_⟩⟩
  · by_cases e : i < ss.length
    · simp only [List.getElem_append_left e, List.getElem_append_left (show i < ps.length by rw [← h.len]; exact e)]
      exact a4.reads (h.ne i e) (h1.rd i e (by rw [← h.len]; exact e))
    · have ei : i = ss.length := by simp at hi; omega
      subst ei
      have ep : ss.length = ps.length := h.len
      simp only [List.getElem_concat_length, List.getElem_append_right (show ps.length ≤ ss.length by omega), ep, Nat.sub_self, List.getElem_cons_zero]
      exact a4.reads (by simp only; omega) (own_reads (l := [p.1, p.2]) hnew)
  · by_cases e : i < ss.length
    · simp only [List.getElem_append_left e, List.length_append, List.length_singleton]
      have := h.lt i e; omega
    · have ei : i = ss.length := by simp at hi; omega
      subst ei
      simp only [List.getElem_concat_length, List.length_append, List.length_singleton]; omega
  · by_cases e : i < ss.length
    · simp only [List.getElem_append_left e]
      have := h.lt i e
      rw [a5]; simp; omega
    · have ei : i = ss.length := by simp at hi; omega
      subst ei
      simp only [List.getElem_concat_length]
      rw [a5]; simp; omega

theorem l19Pairs_l0 (rec : Rec) (k : Nat) {H0 : Hp} {n : Int} (hn : 2 ≤ n ∧ n ≤ 4) :
    ∀ (j i fuel : Nat) (H : Hp) (t : Sl) (ss : List Sl), (i : Int) + j = n * n → j < fuel → H0 <+: H → WholeP H0 H t ss (pairsTo n i) →
      ∃ t' ss' H', spec_l19Pairs.l0 rec k fuel n t i H = some (.sl 1 t', H') ∧ H0 <+: H' ∧ WholeP H0 H' t' ss' (pairs n) := by
  have hnn : n * n ≤ 16 := by
    have : n = 2 ∨ n = 3 ∨ n = 4 := by omega
    rcases this with rfl | rfl | rfl <;> decide
  have hn0 : 0 ≤ n * n := by
    have : n = 2 ∨ n = 3 ∨ n = 4 := by omega
    rcases this with rfl | rfl | rfl <;> decide
  have w := wr (n := n * n) (by omega) (by omega)
  intro j
  induction j with
  | zero =>
    intro i fuel H t ss hi hf hp ho
    obtain ⟨fuel, rfl⟩ : ∃ q, fuel = q + 1 := ⟨fuel - 1, by omega⟩
    have e : (n * n).toNat = i := by omega
    refine ⟨t, ss, H, ?_, hp, by unfold pairs; rw [e]; exact ho⟩
    have : ¬ ((i : Int) < n * n) := by omega
    simp only [spec_l19Pairs.l0, spec_l19Pairs.j2, w, this, decide_false, cond_false]
  | succ j ih =>
    intro i fuel H t ss hi hf hp ho
    obtain ⟨fuel, rfl⟩ : ∃ q, fuel = q + 1 := ⟨fuel - 1, by omega⟩
    have hi1 : (i : Int) < n * n := by omega
    obtain ⟨w0, w1, w2, w3, w4⟩ := nb_wraps hn i hi1
    have hz : ¬ (n = 0) := by omega
    have hl := pairsTo_len n i
    have key : ∀ (H : Hp) (t : Sl) (ss : List Sl), H0 <+: H → WholeP H0 H t ss (pairsTo n i ++ pairsR n i) → ∃ t' ss' H', spec_l19Pairs.j1 rec k (spec_l19Pairs.l0 rec k fuel) n t i H = some (.sl 1 t', H') ∧ H0 <+: H' ∧ WholeP H0 H' t' ss' (pairs n) := by
      intro H t ss hp ho
      have hlR : (pairsR n i).length ≤ 1 := by unfold pairsR; split <;> simp
      by_cases c : (i : Int).tdiv n < n - 1
      · obtain ⟨t1, ss1, H1, a1, a2, a3⟩ := wholeP_app ho hp (by simp; omega) ((i : Int), (i : Int) + n)
        obtain ⟨t', ss', H', b1, b2, b3⟩ := ih (i + 1) fuel H1 t1 ss1 (by omega) (by omega) a2 (by
          rw [pairsTo_succ]; unfold pairsD; rw [if_pos c]; exact a3)
        refine ⟨t', ss', H', ?_, b2, b3⟩
        push_cast at b1
        simp only at a1
        simp only [spec_l19Pairs.j1, spec_l19Pairs.j3, hz, if_false, w1, w2, w3, w4, c, decide_true, cond_true, a1, Option.bind_some, b1]
      · obtain ⟨t', ss', H', b1, b2, b3⟩ := ih (i + 1) fuel H t ss (by omega) (by omega) hp (by
          rw [pairsTo_succ]; unfold pairsD; rw [if_neg c, List.append_nil]; exact ho)
        refine ⟨t', ss', H', ?_, b2, b3⟩
        push_cast at b1
        simp only [spec_l19Pairs.j1, spec_l19Pairs.j3, hz, if_false, w1, w2, w3, w4, c, decide_false, cond_false, b1]
    by_cases c : (i : Int).tmod n < n - 1
    · obtain ⟨t1, ss1, H1, a1, a2, a3⟩ := wholeP_app ho hp (by omega) ((i : Int), (i : Int) + 1)
      obtain ⟨t', ss', H', b1, b2, b3⟩ := key H1 t1 ss1 a2 (by unfold pairsR; rw [if_pos c]; exact a3)
      refine ⟨t', ss', H', ?_, b2, b3⟩
      simp only at a1
      simp only [spec_l19Pairs.l0, w, hi1, decide_true, cond_true, hz, if_false, w2, w3, c, a1, Option.bind_some, b1]
    · obtain ⟨t', ss', H', b1, b2, b3⟩ := key H t ss hp (by unfold pairsR; rw [if_neg c, List.append_nil]; exact ho)
      refine ⟨t', ss', H', ?_, b2, b3⟩
      simp only [spec_l19Pairs.l0, w, hi1, decide_true, decide_false, cond_true, cond_false, hz, if_false, w2, w3, c, b1]

theorem l19Pairs_ok {k : Nat} (hk : 2000000 ≤ k) {n : Int} (hn : 2 ≤ n ∧ n ≤ 4) (H : Hp) :
    ∃ t ss H', callF PP orc k spec_l19Pairs.id [.int .i64 n] H = some (.sl 1 t, H') ∧ H <+: H' ∧ WholeP H H' t ss (pairs n) := by
  obtain ⟨k, rfl⟩ : ∃ m, k = m + 1 := ⟨k - 1, by omega⟩
  rw [spec_l19Pairs.call]
  have hnn : 0 ≤ n * n ∧ n * n ≤ 16 := by
    have : n = 2 ∨ n = 3 ∨ n = 4 := by omega
    rcases this with rfl | rfl | rfl <;> decide
  obtain ⟨t, ss, H', a1, a2, a3⟩ := l19Pairs_l0 (callF PP orc k) k hn (n * n).toNat 0 k (H ++ [some (Blk.mk false [])]) (Sl.mk false H.length 0 0) [] (by omega) (by omega) (List.prefix_append _ _)
    ⟨own_new 1 H [] 0 rfl, rfl, fun i hi => absurd hi (Nat.not_lt_zero _), fun i hi => absurd hi (Nat.not_lt_zero _), fun i hi => absurd hi (Nat.not_lt_zero _)⟩
  exact ⟨t, ss, H', a1, a2, a3⟩
end Go.Proofs.Ytncmneliinbjdaa.Rp
