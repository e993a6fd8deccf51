/- Texts for the row of the law FnPairsIn, part 13: the plain machine, the program's functions on it, what they come to. No conditions. -/
import Derived.Test.YtjojhbdghhmeeaaBuFnPairsIn12
import Derived.Test.YtjojhbdghhmeeaaBuFnPairsIn8
/- Pairs are counted: both sides. No conditions. -/
set_option linter.unusedVariables false
set_option linter.unusedSimpArgs false
namespace Go.Proofs.Ytjojhbdghhmeeaa.Rp
open Go Go.RowKit Go.Proofs.Ytjojhbdghhmeeaa.Ab

def sumR (g : Nat → Nat) : Nat → Nat → Nat
  | _, 0 => 0
  | a, c + 1 => g a + sumR g (a + 1) c
theorem sumR_le {g : Nat → Nat} (h : ∀ i, g i ≤ 1) : ∀ (c a : Nat), sumR g a c ≤ c
  | 0, a => Nat.le_refl _
  | c + 1, a => by rw [sumR]; have := h a; have := sumR_le h c (a + 1); omega
/-- Are these cells of a line a pair? -/
def pf (n : Int) (l : List Int) (line i j : Nat) : Nat := if l.getD (lc n line i) 0 = l.getD (lc n line j) 0 ∧ two (l.getD (lc n line i) 0) = true then 1 else 0
theorem pf_le (n : Int) (l : List Int) (line i j : Nat) : pf n l line i j ≤ 1 := by unfold pf; split <;> omega
theorem pf_symm (n : Int) (l : List Int) (line i j : Nat) : pf n l line i j = pf n l line j i := by
  unfold pf
  by_cases c : l.getD (lc n line i) 0 = l.getD (lc n line j) 0
  · rw [c]
  · rw [if_neg (fun h => c h.1), if_neg (fun h => c h.1.symm)]
def pairsN (n : Int) (l : List Int) (line : Nat) : Nat := sumR (fun i => sumR (pf n l line i) 0 i) 0 n.toNat
theorem pairs_up {n : Int} (hn : 2 ≤ n ∧ n ≤ 4) (l : List Int) (line : Nat) : sumR (fun i => sumR (pf n l line i) (i + 1) (n.toNat - (i + 1))) 0 n.toNat = pairsN n l line := by
  unfold pairsN
  have h01 := pf_symm n l line 0 1
  have h02 := pf_symm n l line 0 2
  have h03 := pf_symm n l line 0 3
  have h12 := pf_symm n l line 1 2
  have h13 := pf_symm n l line 1 3
  have h23 := pf_symm n l line 2 3
  generalize hN : n.toNat = N at *
  have : N = 2 ∨ N = 3 ∨ N = 4 := by omega
  rcases this with rfl | rfl | rfl <;> simp only [sumR, Nat.reduceAdd, Nat.reduceSub] <;> omega
theorem pairs_le {n : Int} (hn : 2 ≤ n ∧ n ≤ 4) (l : List Int) (line : Nat) : (pairsN n l line : Int) ≤ n * (n - 1) / 2 ∧ pairsN n l line ≤ 6 := by
  unfold pairsN
  have h01 := pf_le n l line 1 0
  have h02 := pf_le n l line 2 0
  have h03 := pf_le n l line 3 0
  have h12 := pf_le n l line 2 1
  have h13 := pf_le n l line 3 1
  have h23 := pf_le n l line 3 2
  have : n = 2 ∨ n = 3 ∨ n = 4 := by omega
  rcases this with rfl | rfl | rfl <;> simp only [sumR, Int.reduceToNat, Nat.reduceAdd, Nat.reduceSub] <;> omega
def pairsInV (n : Int) (l : List Int) (line : Int) : Int := if masksOk n l = true ∧ 0 ≤ line ∧ line < 2 * n then (pairsN n l line.toNat : Int) else -1
theorem two_cnt (m : Int) : two m = true ↔ cntM m = 2 := by unfold two cntM; rw [beq_iff_eq]

theorem sPairs_l3 {k : Nat} (hk : 2000000 ≤ k) (L2 : Sl → Int → Sl → Int → Int → Hp → An) {H0 : Hp} {ms cs : Sl} {l : List Int} {n : Int} {line i : Nat} (hmk : masksOk n l = true) (hm : Reads .i64 H0 ms l) (hc : Reads .i64 H0 cs (lineCells n line)) (hline : (line : Int) < 2 * n) (hi : (i : Int) < n) :
    ∀ (j q fuel r : Nat) (H : Hp), q + j = i → j < fuel → H0 <+: H → r + j ≤ 100 →
      ∃ H', spec_PairsIn.l3 (callF Ab.PP orc k) k L2 fuel ms n cs (r : Int) i q H = L2 ms n cs ((r + sumR (pf n l line i) q j : Nat) : Int) ((i : Int) + 1) H' ∧ H0 <+: H' := by
  obtain ⟨l4, l16, lN, hN, n2, n4⟩ := masks_len hmk
  have hll := line_len hmk hline
  have hn : 2 ≤ n ∧ n ≤ 4 := (masksOk_iff.1 hmk).1
  have hsz := (masksOk_iff.1 hmk).2.2
  have hml := hm.len
  have hcl := hc.len
  intro j
  induction j with
  | zero =>
    intro q fuel r H hq hf hp hr
    obtain ⟨fuel, rfl⟩ : ∃ q, fuel = q + 1 := ⟨fuel - 1, by omega⟩
    refine ⟨H, ?_, hp⟩
    simp (disch := omega) only [spec_PairsIn.l3, spec_PairsIn.j6, dt, df, bt, bf, nt, nf, Bool.and_self, Bool.not_true, Bool.not_false, cond_true, cond_false, Int.toNat_natCast, Int.toNat_zero, Int.toNat_one, Option.bind_some, wr, AV.toB, AV.toI, AV.toS, if_true, sumR, Nat.add_zero]
  | succ j ih =>
    intro q fuel r H hq hf hp hr
    obtain ⟨fuel, rfl⟩ : ∃ q, fuel = q + 1 := ⟨fuel - 1, by omega⟩
    have ci := lc_lt hn hline hi
    have cq := lc_lt hn hline (show (q : Int) < n by omega)
    have hri := rdn (pf_reads hp hc) (i := i) (by omega)
    have hrq := rdn (pf_reads hp hc) (i := q) (by omega)
    rw [← ci.2] at hri
    rw [← cq.2] at hrq
    have hrm := pf_reads hp hm
    have hp1 := pf_le n l line i q
    rw [sumR]
    by_cases ce : l.getD (lc n line i) 0 = l.getD (lc n line q) 0
    · obtain ⟨u, H1, a1, a2, a3⟩ := MaskValues_ok hk (l.getD (lc n line i) 0) H
      have hul := (own_reads a3).len
      have hul' : (u.len : Int) = ((cntM (l.getD (lc n line i) 0) : Nat) : Int) := by rw [hul]; rfl
      by_cases c2 : cntM (l.getD (lc n line i) 0) = 2
      · have e : pf n l line i q = 1 := by unfold pf; rw [if_pos ⟨ce, (two_cnt _).2 c2⟩]
        obtain ⟨H', d1, d2⟩ := ih (q + 1) fuel (r + 1) H1 (by omega) (by omega) (hp.trans a2) (by omega)
        push_cast at d1
        refine ⟨H', ?_, d2⟩
        rw [e]
        have hul2 : (u.len : Int) = 2 := by omega
        simp (disch := omega) only [spec_PairsIn.l3, spec_PairsIn.j5, spec_PairsIn.j7, dt, bt ce, bt, Bool.and_self, cond_true, Int.toNat_natCast, Option.bind_some, AV.toS, if_true, hri, hrq, rdn hrm, a1, hul2, wr (n := (r : Int) + 1), wr (n := (q : Int) + 1), d1]
        congr 2
        omega
      · have e : pf n l line i q = 0 := by unfold pf; rw [if_neg (fun h => c2 ((two_cnt _).1 h.2))]
        obtain ⟨H', d1, d2⟩ := ih (q + 1) fuel r H1 (by omega) (by omega) (hp.trans a2) (by omega)
        push_cast at d1
        refine ⟨H', ?_, d2⟩
        rw [e]
        simp (disch := omega) only [spec_PairsIn.l3, spec_PairsIn.j5, spec_PairsIn.j7, dt, bt ce, bf, Bool.and_self, cond_true, cond_false, Int.toNat_natCast, Option.bind_some, AV.toS, if_true, hri, hrq, rdn hrm, a1, hul', wr (n := (q : Int) + 1), d1]
        congr 2
        omega
    · have e : pf n l line i q = 0 := by unfold pf; rw [if_neg (fun h => ce h.1)]
      obtain ⟨H', d1, d2⟩ := ih (q + 1) fuel r H (by omega) (by omega) hp (by omega)
      push_cast at d1
      refine ⟨H', ?_, d2⟩
      rw [e]
      simp (disch := omega) only [spec_PairsIn.l3, spec_PairsIn.j5, spec_PairsIn.j7, dt, bf ce, Bool.and_self, cond_true, cond_false, Int.toNat_natCast, Option.bind_some, hri, hrq, rdn hrm, wr (n := (q : Int) + 1), d1]
      congr 2
      omega
theorem sPairs_l2 {k : Nat} (hk : 2000000 ≤ k) {H0 : Hp} {ms cs : Sl} {l : List Int} {n : Int} {line : Nat} (hmk : masksOk n l = true) (hm : Reads .i64 H0 ms l) (hc : Reads .i64 H0 cs (lineCells n line)) (hline : (line : Int) < 2 * n) :
    ∀ (j i fuel r : Nat) (H : Hp), ((i + j : Nat) : Int) = n → j < fuel → H0 <+: H → r ≤ 4 * i →
      ∃ H', spec_PairsIn.l2 (callF Ab.PP orc k) k fuel ms n cs (r : Int) i H = some (.int .i64 ((r + sumR (fun i => sumR (pf n l line i) 0 i) i j : Nat) : Int), H') ∧ H0 <+: H' := by
  have hn : 2 ≤ n ∧ n ≤ 4 := (masksOk_iff.1 hmk).1
  intro j
  induction j with
  | zero =>
    intro i fuel r H hq hf hp hr
    obtain ⟨fuel, rfl⟩ : ∃ q, fuel = q + 1 := ⟨fuel - 1, by omega⟩
    refine ⟨H, ?_, hp⟩
    simp (disch := omega) only [spec_PairsIn.l2, spec_PairsIn.j4, dt, df, bt, bf, nt, nf, Bool.and_self, Bool.not_true, Bool.not_false, cond_true, cond_false, Int.toNat_natCast, Int.toNat_zero, Int.toNat_one, Option.bind_some, wr, AV.toB, AV.toI, AV.toS, if_true, sumR, Nat.add_zero]
  | succ j ih =>
    intro i fuel r H hq hf hp hr
    obtain ⟨fuel, rfl⟩ : ∃ q, fuel = q + 1 := ⟨fuel - 1, by omega⟩
    obtain ⟨H1, a1, a2⟩ := sPairs_l3 hk (spec_PairsIn.l2 (callF Ab.PP orc k) k fuel) hmk hm hc hline (i := i) (by omega) i 0 k r H (by omega) (by omega) hp (by omega)
    have hs := sumR_le (pf_le n l line i) i 0
    obtain ⟨H', d1, d2⟩ := ih (i + 1) fuel (r + sumR (pf n l line i) 0 i) H1 (by push_cast at hq ⊢; omega) (by omega) a2 (by omega)
    push_cast at d1 a1
    refine ⟨H', ?_, d2⟩
    rw [sumR]
    simp (disch := omega) only [spec_PairsIn.l2, dt, cond_true, a1, d1]
    congr 4
    omega
theorem specPairsIn_ok {k : Nat} (hk : 2000010 ≤ k) {H : Hp} {ms : Sl} {l : List Int} {n : Int} (hb : -1 ≤ n ∧ n ≤ 5) (hm : Reads .i64 H ms l) (hl : l.length ≤ 1000) (line : Int) :
    ∃ H', callF Ab.PP orc k spec_PairsIn.id [.sl 1 ms, .int .i64 n, .int .i64 line] H = some (.int .i64 (pairsInV n l line), H') ∧ H <+: H' := by
  obtain ⟨k, rfl⟩ : ∃ q, k = q + 1 := ⟨k - 1, by omega⟩
  rw [spec_PairsIn.call]
  obtain ⟨cs, H1, a1, a2, a3⟩ := specLineCells_own (show 2000000 ≤ k by omega) n line H
  have h1 := specMasksValid_any (show 2000000 ≤ k by omega) hb (pf_reads a2 hm) hl
  have hcl := (own_reads a3).len
  unfold pairsInV
  cases e1 : masksOk n l with
  | false =>
    rw [e1] at h1
    rw [iN (by simp)]
    exact ⟨H1, by simp only [spec_PairsIn.f, spec_PairsIn.j0, dt, df, bt, bf, nt, nf, Bool.and_self, Bool.not_true, Bool.not_false, cond_true, cond_false, Int.toNat_natCast, Int.toNat_zero, Int.toNat_one, Option.bind_some, wr, AV.toB, AV.toI, AV.toS, if_true, a1, h1], a2⟩
  | true =>
    rw [e1] at h1
    have hn : 2 ≤ n ∧ n ≤ 4 := (masksOk_iff.1 e1).1
    by_cases c : 0 ≤ line ∧ line < 2 * n
    · rw [ip ⟨rfl, c⟩]
      obtain ⟨ln, rfl⟩ := Int.eq_ofNat_of_zero_le c.1
      have hll := line_len e1 c.2
      obtain ⟨H', d1, d2⟩ := sPairs_l2 (show 2000000 ≤ k by omega) e1 (pf_reads a2 hm) (own_reads a3) c.2 n.toNat 0 k 0 H1 (by omega) (by omega) (List.prefix_refl _) (by omega)
      rw [Nat.zero_add] at d1
      rw [Int.toNat_natCast]
      refine ⟨H', ?_, a2.trans d2⟩
      simp only [Int.natCast_zero] at d1
      simp (disch := omega) only [spec_PairsIn.f, spec_PairsIn.j0, spec_PairsIn.j1, dt, bf, Bool.not_true, cond_false, Option.bind_some, AV.toB, AV.toS, if_true, a1, h1, d1]
      rfl
    · rw [iN (fun h => c h.2)]
      have hz : lineCells n line = [] := by unfold lineCells; rw [if_neg (fun h => c h.2)]
      rw [hz] at hcl
      have hz2 : (cs.len : Int) = 0 := by rw [hcl]; rfl
      exact ⟨H1, by simp only [spec_PairsIn.f, spec_PairsIn.j0, dt, df, bt, bf, nt, nf, Bool.and_self, Bool.not_true, Bool.not_false, cond_true, cond_false, Int.toNat_natCast, Int.toNat_zero, Int.toNat_one, Option.bind_some, wr, AV.toB, AV.toI, AV.toS, if_true, a1, h1, bt hz2], a2⟩
theorem iPairsIn_l3 {k : Nat} (hk : 2 ≤ k) (L2 : Sl → Sl → Int → Sl → Int → Int → Hp → An) {H : Hp} {ms cs : Sl} {l : List Int} {n : Int} {line i : Nat} (hmk : masksOk n l = true) (hm : Reads .i64 H ms l) (hc : Reads .i64 H cs (lineCells n line)) (hline : (line : Int) < 2 * n) (hi : (i : Int) < n) :
    ∀ (j p fuel r : Nat), ((i + 1 + p : Nat) : Int) + j = n → j < fuel → r + j ≤ 100 →
      impl_PairsIn.l3 (callF Ab.PP orc k) k L2 fuel ms cs (r : Int) (lc n line i : Int) cs n i (Sl.mk cs.nil cs.blk (cs.off + (i + 1)) (n.toNat - (i + 1))) ((n.toNat - (i + 1) : Nat) : Int) p H = L2 ms cs ((r + sumR (pf n l line i) (i + 1 + p) j : Nat) : Int) cs n ((i : Int) + 1) H := by
  obtain ⟨l4, l16, lN, hN, n2, n4⟩ := masks_len hmk
  have hll := line_len hmk hline
  have hn : 2 ≤ n ∧ n ≤ 4 := (masksOk_iff.1 hmk).1
  have hsz := (masksOk_iff.1 hmk).2.2
  have hml := hm.len
  have hcl := hc.len
  intro j
  induction j with
  | zero =>
    intro p fuel r hq hf hr
    obtain ⟨fuel, rfl⟩ : ∃ q, fuel = q + 1 := ⟨fuel - 1, by omega⟩
    simp (disch := omega) only [impl_PairsIn.l3, impl_PairsIn.j6, dt, df, bt, bf, nt, nf, Bool.and_self, Bool.not_true, Bool.not_false, cond_true, cond_false, Int.toNat_natCast, Int.toNat_zero, Int.toNat_one, Option.bind_some, wr, AV.toB, AV.toI, AV.toS, if_true, sumR, Nat.add_zero]
  | succ j ih =>
    intro p fuel r hq hf hr
    obtain ⟨fuel, rfl⟩ : ∃ q, fuel = q + 1 := ⟨fuel - 1, by omega⟩
    have ci := lc_lt hn hline hi
    have cb := lc_lt hn hline (show ((i + 1 + p : Nat) : Int) < n by omega)
    have hrs := reads_from hc (i + 1) (by omega)
    rw [hll] at hrs
    have hrp := rdn hrs (i := p) (by simp; omega)
    have edr : ((lineCells n line).drop (i + 1)).getD p 0 = (lineCells n line).getD (i + 1 + p) 0 := by
      rw [List.getD_eq_getElem?_getD, List.getElem?_drop, ← List.getD_eq_getElem?_getD]
    rw [edr, ← cb.2] at hrp
    have h1 := OnesCount_ok (show 2 ≤ k by omega) (masks_at hmk (show lc n line i < l.length by omega)) H
    have hp1 := pf_le n l line i (i + 1 + p)
    rw [sumR]
    by_cases ce : l.getD (lc n line i) 0 = l.getD (lc n line (i + 1 + p)) 0
    · by_cases c2 : cntM (l.getD (lc n line i) 0) = 2
      · have e : pf n l line i (i + 1 + p) = 1 := by unfold pf; rw [if_pos ⟨ce, (two_cnt _).2 c2⟩]
        have d1 := ih (p + 1) fuel (r + 1) (by omega) (by omega) (by omega)
        push_cast at d1
        rw [e]
        have hc2' : ((cntM (l.getD (lc n line i) 0) : Nat) : Int) = 2 := by omega
        simp (disch := omega) only [impl_PairsIn.l3, impl_PairsIn.j5, impl_PairsIn.j7, dt, bt ce, bt, Bool.and_self, cond_true, Int.toNat_natCast, Option.bind_some, AV.toI, if_true, hrp, rdn hm, h1, hc2', wr (n := (r : Int) + 1), wr (n := (p : Int) + 1), d1]
        congr 2
        rw [show i + 1 + (p + 1) = i + 1 + p + 1 by omega]
        omega
      · have e : pf n l line i (i + 1 + p) = 0 := by unfold pf; rw [if_neg (fun h => c2 ((two_cnt _).1 h.2))]
        have d1 := ih (p + 1) fuel r (by omega) (by omega) (by omega)
        push_cast at d1
        rw [e]
        simp (disch := omega) only [impl_PairsIn.l3, impl_PairsIn.j5, impl_PairsIn.j7, dt, bt ce, bf, Bool.and_self, cond_true, cond_false, Int.toNat_natCast, Option.bind_some, AV.toI, if_true, hrp, rdn hm, h1, wr (n := (p : Int) + 1), d1]
        congr 2
        rw [show i + 1 + (p + 1) = i + 1 + p + 1 by omega]
        omega
    · have e : pf n l line i (i + 1 + p) = 0 := by unfold pf; rw [if_neg (fun h => ce h.1)]
      have d1 := ih (p + 1) fuel r (by omega) (by omega) (by omega)
      push_cast at d1
      rw [e]
      simp (disch := omega) only [impl_PairsIn.l3, impl_PairsIn.j5, impl_PairsIn.j7, dt, bf ce, Bool.and_self, cond_true, cond_false, Int.toNat_natCast, Option.bind_some, hrp, rdn hm, wr (n := (p : Int) + 1), d1]
      congr 2
      rw [show i + 1 + (p + 1) = i + 1 + p + 1 by omega]
      omega
theorem iPairsIn_l2 {k : Nat} (hk : 2000000 ≤ k) {H : Hp} {ms cs : Sl} {l : List Int} {n : Int} {line : Nat} (hmk : masksOk n l = true) (hm : Reads .i64 H ms l) (hc : Reads .i64 H cs (lineCells n line)) (hline : (line : Int) < 2 * n) :
    ∀ (j i fuel r : Nat), ((i + j : Nat) : Int) = n → j < fuel → r ≤ 4 * i →
      impl_PairsIn.l2 (callF Ab.PP orc k) k fuel ms cs (r : Int) cs n i H = some (.int .i64 ((r + sumR (fun i => sumR (pf n l line i) (i + 1) (n.toNat - (i + 1))) i j : Nat) : Int), H) := by
  obtain ⟨l4, l16, lN, hN, n2, n4⟩ := masks_len hmk
  have hll := line_len hmk hline
  have hn : 2 ≤ n ∧ n ≤ 4 := (masksOk_iff.1 hmk).1
  have hcl := hc.len
  intro j
  induction j with
  | zero =>
    intro i fuel r hq hf hr
    obtain ⟨fuel, rfl⟩ : ∃ q, fuel = q + 1 := ⟨fuel - 1, by omega⟩
    simp (disch := omega) only [impl_PairsIn.l2, impl_PairsIn.j4, dt, df, bt, bf, nt, nf, Bool.and_self, Bool.not_true, Bool.not_false, cond_true, cond_false, Int.toNat_natCast, Int.toNat_zero, Int.toNat_one, Option.bind_some, wr, AV.toB, AV.toI, AV.toS, if_true, sumR, Nat.add_zero]
  | succ j ih =>
    intro i fuel r hq hf hr
    obtain ⟨fuel, rfl⟩ : ∃ q, fuel = q + 1 := ⟨fuel - 1, by omega⟩
    have hi : (i : Int) < n := by omega
    have ci := lc_lt hn hline hi
    have hrq := rdn hc (i := i) (by omega)
    rw [← ci.2] at hrq
    have a1 := iPairsIn_l3 (show 2 ≤ k by omega) (impl_PairsIn.l2 (callF Ab.PP orc k) k fuel) hmk hm hc hline hi (n.toNat - (i + 1)) 0 k r (by omega) (by omega) (by omega)
    have hs := sumR_le (pf_le n l line i) (n.toNat - (i + 1)) (i + 1)
    have d1 := ih (i + 1) fuel (r + sumR (pf n l line i) (i + 1) (n.toNat - (i + 1))) (by push_cast at hq ⊢; omega) (by omega) (by omega)
    push_cast at d1
    rw [sumR]
    have hlen : (cs.len : Int) = n := by omega
    have w1 : IntKind.i64.wrap ((i : Int) + 1) = (i : Int) + 1 := wr (by omega) (by omega)
    have esl : (Sl.mk cs.nil cs.blk (cs.off + ((i : Int) + 1).toNat * 1) (n - ((i : Int) + 1)).toNat) = Sl.mk cs.nil cs.blk (cs.off + (i + 1)) (n.toNat - (i + 1)) := by
      congr 1 <;> omega
    have hq : ((0 : Int) ≤ (i : Int) + 1 ∧ (i : Int) + 1 ≤ n ∧ n ≤ n ∧ True) ∧ 0 < 1 ∧ True := ⟨⟨by omega, by omega, by omega, trivial⟩, by omega, trivial⟩
    simp only [Int.natCast_zero, Nat.add_zero] at a1
    simp (disch := omega) only [impl_PairsIn.l2, dt, Bool.and_self, cond_true, Int.toNat_natCast, Option.bind_some, hrq, hlen, w1, esl, ip hq]
    rw [show (n - ((i : Int) + 1)).toNat = n.toNat - (i + 1) by omega, a1]
    push_cast
    rw [d1, Int.add_assoc]
theorem implPairsIn_ok {k : Nat} (hk : 2000010 ≤ k) {H : Hp} {ms : Sl} {l : List Int} {n : Int} (hb : -1 ≤ n ∧ n ≤ 5) (hm : Reads .i64 H ms l) (hl : l.length ≤ 1000) (hr : ∀ m ∈ l, -2 ≤ m ∧ m ≤ 63) (line : Int) :
    ∃ H', callF Ab.PP orc k impl_PairsIn.id [.sl 1 ms, .int .i64 n, .int .i64 line] H = some (.int .i64 (pairsInV n l line), H') ∧ H <+: H' := by
  obtain ⟨k, rfl⟩ : ∃ q, k = q + 1 := ⟨k - 1, by omega⟩
  rw [impl_PairsIn.call]
  unfold pairsInV
  cases e1 : masksOk n l with
  | false =>
    rw [iN (by simp)]
    obtain ⟨cs, H1, a1, a2, a3⟩ := implLineCells_ok (show 2000000 ≤ k by omega) n line H
    have h1 := implMasksValid_ok (show 2000000 ≤ k by omega) hb (pf_reads a2 hm) hl hr
    rw [e1] at h1
    exact ⟨H1, by simp only [impl_PairsIn.f, impl_PairsIn.j0, dt, df, bt, bf, nt, nf, Bool.and_self, Bool.not_true, Bool.not_false, cond_true, cond_false, Int.toNat_natCast, Int.toNat_zero, Int.toNat_one, Option.bind_some, wr, AV.toB, AV.toI, AV.toS, if_true, a1, h1], a2⟩
  | true =>
    have hn : 2 ≤ n ∧ n ≤ 4 := (masksOk_iff.1 e1).1
    by_cases c : 0 ≤ line ∧ line < 2 * n
    · rw [ip ⟨rfl, c⟩]
      obtain ⟨cs, H1, a1, a2, a3⟩ := implLineCells_own (show 2000000 ≤ k by omega) hn c H
      have h1 := implMasksValid_ok (show 2000000 ≤ k by omega) hb (pf_reads a2 hm) hl hr
      rw [e1] at h1
      have hcl := (own_reads a3).len
      obtain ⟨ln, rfl⟩ := Int.eq_ofNat_of_zero_le c.1
      have hll := line_len e1 c.2
      have d1 := iPairsIn_l2 (show 2000000 ≤ k by omega) e1 (pf_reads a2 hm) (own_reads a3) c.2 n.toNat 0 k 0 (by omega) (by omega) (by omega)
      rw [Nat.zero_add, pairs_up hn] at d1
      rw [Int.toNat_natCast]
      refine ⟨H1, ?_, a2⟩
      simp only [Int.natCast_zero] at d1
      have hlen : (cs.len : Int) = n := by omega
      simp (disch := omega) only [impl_PairsIn.f, impl_PairsIn.j0, impl_PairsIn.j1, Bool.not_true, cond_false, Option.bind_some, AV.toB, AV.toS, if_true, a1, h1, a3.nn, hlen, d1]
    · rw [iN (fun h => c h.2)]
      have h1 := implMasksValid_ok (show 2000000 ≤ k by omega) hb hm hl hr
      rw [e1] at h1
      have a1 : callF Ab.PP orc k impl_LineCells.id [.int .i64 n, .int .i64 line] H = some (.sl 1 Sl.none, H) := by
        obtain ⟨k, rfl⟩ : ∃ q, k = q + 1 := ⟨k - 1, by omega⟩
        rw [impl_LineCells.call]
        have hs := sizeOk_ok (show 1 ≤ k by omega) n H
        rw [decide_eq_true hn] at hs
        by_cases c1 : line < 0
        · simp (disch := omega) only [impl_LineCells.f, impl_LineCells.j0, dt, df, bt, bf, nt, nf, Bool.and_self, Bool.not_true, Bool.not_false, cond_true, cond_false, Int.toNat_natCast, Int.toNat_zero, Int.toNat_one, Option.bind_some, wr, AV.toB, AV.toI, AV.toS, if_true, hs, dt c1]
        · have hg : line ≥ 2 * n := by omega
          simp (disch := omega) only [impl_LineCells.f, impl_LineCells.j0, dt, df, bt, bf, nt, nf, Bool.and_self, Bool.not_true, Bool.not_false, cond_true, cond_false, Int.toNat_natCast, Int.toNat_zero, Int.toNat_one, Option.bind_some, wr, AV.toB, AV.toI, AV.toS, if_true, hs, df c1, wr (n := 2 * n), dt hg]
      exact ⟨H, by simp only [impl_PairsIn.f, impl_PairsIn.j0, dt, df, bt, bf, nt, nf, Bool.and_self, Bool.not_true, Bool.not_false, cond_true, cond_false, Int.toNat_natCast, Int.toNat_zero, Int.toNat_one, Option.bind_some, wr, AV.toB, AV.toI, AV.toS, if_true, a1, h1, Sl.none], (List.prefix_refl _)⟩
end Go.Proofs.Ytjojhbdghhmeeaa.Rp
/- The law FnPairsIn: true whatever it is given. No conditions. -/
set_option linter.unusedVariables false
set_option linter.unusedSimpArgs false
namespace Go.Proofs.Ytjojhbdghhmeeaa.Rp
open Go Go.RowKit Go.Proofs.Ytjojhbdghhmeeaa.Ab

theorem all6_ok : ∀ n : Nat, n < 5 → 2 ≤ n → masksOk n (List.replicate (n * n) 6) = true := by
  intro n h1 h2
  have : n = 2 ∨ n = 3 ∨ n = 4 := by omega
  rcases this with rfl | rfl | rfl <;> decide
theorem all6_pairs {n : Int} (hn : 2 ≤ n ∧ n ≤ 4) {line : Nat} (hl : (line : Int) < 2 * n) : (pairsN n (List.replicate (n * n).toNat 6) line : Int) = n * (n - 1) / 2 := by
  have at6 : ∀ i : Nat, (i : Int) < n → (List.replicate (n * n).toNat (6 : Int)).getD (lc n line i) 0 = 6 := fun i hi => by
    have := lc_lt hn hl hi
    rw [List.getD_eq_getElem?_getD, List.getElem?_replicate, if_pos (by omega)]; rfl
  have e : ∀ i j : Nat, (i : Int) < n → (j : Int) < n → pf n (List.replicate (n * n).toNat 6) line i j = 1 := fun i j hi hj => by
    unfold pf
    rw [at6 i hi, at6 j hj, if_pos ⟨rfl, by decide⟩]
  unfold pairsN
  have : n = 2 ∨ n = 3 ∨ n = 4 := by omega
  rcases this with rfl | rfl | rfl
  · have h10 := e 1 0 (by omega) (by omega)
    simp only [sumR, Int.reduceToNat, Nat.reduceAdd, Nat.reduceSub] at *
    omega
  · have h10 := e 1 0 (by omega) (by omega)
    have h20 := e 2 0 (by omega) (by omega)
    have h21 := e 2 1 (by omega) (by omega)
    simp only [sumR, Int.reduceToNat, Nat.reduceAdd, Nat.reduceSub] at *
    omega
  · have h10 := e 1 0 (by omega) (by omega)
    have h20 := e 2 0 (by omega) (by omega)
    have h21 := e 2 1 (by omega) (by omega)
    have h30 := e 3 0 (by omega) (by omega)
    have h31 := e 3 1 (by omega) (by omega)
    have h32 := e 3 2 (by omega) (by omega)
    simp only [sumR, Int.reduceToNat, Nat.reduceAdd, Nat.reduceSub] at *
    omega
theorem PairsLaw_l0 {k : Nat} (hk : 2000020 ≤ k) {H0 : Hp} {n line m : Int} (hn : 2 ≤ n ∧ n ≤ 4) (hl : 0 ≤ line ∧ line < 2 * n) (hm : m ≤ n * (n - 1) / 2) :
    ∀ (j i fuel : Nat) (H : Hp) (t : Sl), ((i + j : Nat) : Int) = n * n → j < fuel → H0 <+: H → Own 1 H0 H t ((List.replicate i (6 : Int)).map (.int .i64)) →
      ∃ H', laws_FnPairsIn.l0 (callF Ab.PP orc k) k fuel n line m t i H = some (.bool true, H') := by
  have hnn : 4 ≤ n * n ∧ n * n ≤ 16 ∧ 2 ≤ n * (n - 1) ∧ n * (n - 1) ≤ 12 := by
    have : n = 2 ∨ n = 3 ∨ n = 4 := by omega
    rcases this with rfl | rfl | rfl <;> decide
  have ediv : (n * (n - 1)).tdiv 2 = n * (n - 1) / 2 := by rw [Int.tdiv_eq_ediv_of_nonneg (by omega)]
  intro j
  induction j with
  | zero =>
    intro i fuel H t hi hf hp ho
    obtain ⟨fuel, rfl⟩ : ∃ q, fuel = q + 1 := ⟨fuel - 1, by omega⟩
    have e : i = (n * n).toNat := by omega
    subst e
    have hok : masksOk n (List.replicate (n * n).toNat 6) = true := by
      have := all6_ok n.toNat (by omega) (by omega)
      rw [show ((n.toNat : Nat) : Int) = n by omega] at this
      have e2 : n.toNat * n.toNat = (n * n).toNat := by
        have : n = 2 ∨ n = 3 ∨ n = 4 := by omega
        rcases this with rfl | rfl | rfl <;> decide
      rw [e2] at this; exact this
    obtain ⟨H', a1, a2⟩ := implPairsIn_ok (show 2000010 ≤ k by omega) (n := n) (by omega) (own_reads ho) (by simp; omega) (fun m hm => by have := (List.mem_replicate.1 hm).2; omega) line
    have e3 : pairsInV n (List.replicate (n * n).toNat 6) line = n * (n - 1) / 2 := by
      unfold pairsInV
      rw [if_pos ⟨hok, hl⟩]
      exact all6_pairs hn (by omega)
    rw [e3] at a1
    refine ⟨H', ?_⟩
    simp (disch := omega) only [laws_FnPairsIn.l0, laws_FnPairsIn.j1, dt, df, cond_true, cond_false, Option.bind_some, AV.toI, if_true, wr (n := n * n), wr (n := n - 1), wr (n := n * (n - 1)), ediv, wr (n := n * (n - 1) / 2), a1, beq_self_eq_true]
  | succ j ih =>
    intro i fuel H t hi hf hp ho
    obtain ⟨fuel, rfl⟩ : ∃ q, fuel = q + 1 := ⟨fuel - 1, by omega⟩
    have htl := (own_reads ho).len
    obtain ⟨H1, a1, a2, a3, a4⟩ := own_app1 ho hp 6 (by simp at htl; omega)
    rw [← List.replicate_succ'] at a3
    obtain ⟨H', b1⟩ := ih (i + 1) fuel H1 _ (by push_cast at hi ⊢; omega) (by omega) a2 a3
    push_cast at b1
    refine ⟨H', ?_⟩
    simp (disch := omega) only [laws_FnPairsIn.l0, dt, cond_true, Option.bind_some, wr (n := n * n), a1, wr (n := (i : Int) + 1), b1]
theorem DrawPairsIn_ok {k : Nat} (hk : 2000603 ≤ k) {H : Hp} {s : Sl} {l : List Int} (hs : Reads .u8 H s l) (hb : ∀ x ∈ l, 0 ≤ x ∧ x ≤ 255) : ∃ n t v z H', callF PP orc k spec_DrawPairsIn.id [.sl 1 s] H = some (.tup [.sl 1 t, .int .i64 n, .int .i64 z], H') ∧ H <+: H' ∧ Reads .i64 H' t v ∧ v.length ≤ 16 ∧ (∀ m ∈ v, -2 ≤ m ∧ m ≤ 63) ∧ -1 ≤ n ∧ n ≤ 5 := by
  obtain ⟨k, rfl⟩ : ∃ q, k = q + 1 := ⟨k - 1, by omega⟩
  rw [spec_DrawPairsIn.call]
  obtain ⟨n, t, v, H1, a1, a2, a3, a4, a5, a6, a7, a8⟩ := DrawNarrowPairs_ok (show 2000602 ≤ k by omega) hs hb
  refine ⟨n, t, v, IntKind.i64.wrap ((s.len : Int).tmod 10 - 1), H1, ?_, a2, a3, a5, a6, a7, a8⟩
  · simp only [spec_DrawPairsIn.f, dt, df, bt, bf, nt, nf, Bool.and_self, Bool.not_true, Bool.not_false, cond_true, cond_false, Int.toNat_natCast, Int.toNat_zero, Int.toNat_one, Option.bind_some, wr, AV.toB, AV.toI, AV.toS, if_true, a1, AV.isTup, AV.nth, List.length_cons, List.length_nil, List.getD_cons_zero, List.getD_cons_succ, beq_self_eq_true]
theorem PairsIn_law {k : Nat} (hk : 2000800 ≤ k) {H : Hp} {s : Sl} {l : List Int} (hs : Reads .u8 H s l) (hb : ∀ x ∈ l, 0 ≤ x ∧ x ≤ 255) :
    ∃ H', callF PP orc k laws_FnPairsIn.id [.sl 1 s] H = some (.bool true, H') := by
  obtain ⟨k, rfl⟩ : ∃ q, k = q + 1 := ⟨k - 1, by omega⟩
  rw [laws_FnPairsIn.call]
  by_cases hbig : (s.len : Int) > 1048576
  · exact ⟨H, by simp only [laws_FnPairsIn.f, dt hbig, cond_true]⟩
  · obtain ⟨n, t, v, z, H1, a1, a2, a3, a5, a6, a7, a8⟩ := DrawPairsIn_ok (show 2000603 ≤ k by omega) hs hb
    obtain ⟨H2, b1, b2⟩ := implPairsIn_ok (show 2000010 ≤ k by omega) (n := n) ⟨a7, a8⟩ a3 (by omega) a6 z
    obtain ⟨H3, c1, c2⟩ := specPairsIn_ok (show 2000010 ≤ k by omega) (n := n) ⟨a7, a8⟩ (pf_reads b2 a3) (by omega) z
    unfold laws_FnPairsIn.f
    rw [df hbig, cond_false, a1, Option.bind_some]
    simp only [AV.isTup, AV.nth, AV.toI, AV.toS, List.length_cons, List.length_nil, List.getD_cons_zero, List.getD_cons_succ, if_true, beq_self_eq_true, cond_true, Option.bind_some]
    rw [b1, Option.bind_some]
    simp only [AV.toI, if_true, Option.bind_some]
    rw [c1, Option.bind_some]
    simp only [AV.toI, if_true, Option.bind_some, nf rfl, cond_false]
    by_cases c : masksOk n v = true ∧ 0 ≤ z ∧ z < 2 * n
    · have hn := (masksOk_iff.1 c.1).1
      have e : pairsInV n v z = (pairsN n v z.toNat : Int) := by unfold pairsInV; rw [if_pos c]
      have hle := pairs_le hn v z.toNat
      have hnew := own_new 1 H3 ((List.replicate 0 (6 : Int)).map (.int .i64)) 0 rfl
      have hnn : 4 ≤ n * n ∧ n * n ≤ 16 := by
        have : n = 2 ∨ n = 3 ∨ n = 4 := by omega
        rcases this with rfl | rfl | rfl <;> decide
      obtain ⟨H', d1⟩ := PairsLaw_l0 (show 2000020 ≤ k by omega) hn c.2 (m := (pairsN n v z.toNat : Int)) hle.1 (n * n).toNat 0 k (H3 ++ [some (Blk.mk false [])]) (Sl.mk false H3.length 0 0) (by omega) (by omega) (List.prefix_append _ _) hnew
      refine ⟨H', ?_⟩
      rw [e, df (show ¬ ((pairsN n v z.toNat : Int) < 0) by omega), cond_false]
      exact d1
    · have e : pairsInV n v z = -1 := by unfold pairsInV; rw [if_neg c]
      obtain ⟨H4, d1, d2⟩ := alive_ok (show 2000002 ≤ k by omega) H3
      refine ⟨H4, ?_⟩
      simp only [e, dt (show (-1 : Int) < 0 by omega), cond_true, beq_self_eq_true, d1, Option.bind_some, AV.toB]
end Go.Proofs.Ytjojhbdghhmeeaa.Rp
