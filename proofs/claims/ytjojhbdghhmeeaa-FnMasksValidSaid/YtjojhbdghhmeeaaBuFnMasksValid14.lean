/- Texts for the row of the law FnMasksValid, part 14: the plain machine, the program's functions on it, what they come to. No conditions. -/
import Derived.Test.YtjojhbdghhmeeaaBuFnMasksValid10
import Derived.Test.YtjojhbdghhmeeaaBuFnMasksValid13
import Derived.Test.YtjojhbdghhmeeaaBuFnMasksValid9
import Derived.Test.YtjojhbdghhmeeaaBuFnMasksValid6
import Derived.Test.YtjojhbdghhmeeaaBuFnMasksValid7
/- Masks that are drawn. No conditions. -/
set_option linter.unusedVariables false
set_option linter.unusedSimpArgs false
namespace Go.Proofs.Ytjojhbdghhmeeaa.Rp
open Go Go.RowKit Go.Proofs.Ytjojhbdghhmeeaa.Ab

/-- A slice of a block of numbers. -/
def valS (t : Sl) (c : List Int) : List Int := (c.drop t.off).take t.len
/-- Masks while they are drawn. -/
structure MD (b : Nat) (l : List Int) (p : Nat) (B H : Hp) (t : Sl) (c : List Int) : Prop where
  hb : b < B.length
  adv : Adv b B H
  rd : RD b H l p
  ow : Own 1 B H (Sl.mk false t.blk 0 c.length) (c.map (.int .i64))
  nn : t.nil = false
  fit : t.off + t.len ≤ c.length
  c16 : c.length ≤ 16
  rg : ∀ m ∈ c, -2 ≤ m ∧ m ≤ 63
theorem valS_len {t : Sl} {c : List Int} (h : t.off + t.len ≤ c.length) : (valS t c).length = t.len := by unfold valS; simp; omega
theorem MD.len {b : Nat} {l : List Int} {p : Nat} {B H : Hp} {t : Sl} {c : List Int} (h : MD b l p B H t c) : (valS t c).length = t.len := valS_len h.fit
theorem MD.reads {b : Nat} {l : List Int} {p : Nat} {B H : Hp} {t : Sl} {c : List Int} (h : MD b l p B H t c) : Reads .i64 H t (valS t c) := by
  have hl := h.len
  refine ⟨by omega, fun i hi => ?_⟩
  have h1 := own_cell h.ow (t.off + i)
  have hf := h.fit
  have e : t.off + i < c.length := by omega
  have e2 : (valS t c)[i]'hi = c[t.off + i] := by simp [valS]
  rw [e2]
  rw [Nat.zero_add] at h1
  show H.cell t.blk (t.off + i) = _
  rw [h1]; simp [e]
theorem MD.rgv {b : Nat} {l : List Int} {p : Nat} {B H : Hp} {t : Sl} {c : List Int} (h : MD b l p B H t c) : ∀ m ∈ valS t c, -2 ≤ m ∧ m ≤ 63 := fun m hm => h.rg m (List.mem_of_mem_drop (List.mem_of_mem_take hm))
theorem MD.l16 {b : Nat} {l : List Int} {p : Nat} {B H : Hp} {t : Sl} {c : List Int} (h : MD b l p B H t c) : (valS t c).length ≤ 16 := by
  have := h.len; have := h.fit; have := h.c16; omega
theorem MD.blk {b : Nat} {l : List Int} {p : Nat} {B H : Hp} {t : Sl} {c : List Int} (h : MD b l p B H t c) : B.length ≤ t.blk := h.ow.blk
theorem MD.step {b : Nat} {l : List Int} {p p' : Nat} {B H H' : Hp} {t : Sl} {c : List Int} (h : MD b l p B H t c) (a : Adv b H H') (r : RD b H' l p') : MD b l p' B H' t c := ⟨h.hb, h.adv.trans a, r, a.own h.hb h.ow, h.nn, h.fit, h.c16, h.rg⟩
theorem MD.set {b : Nat} {l : List Int} {p : Nat} {B H : Hp} {t : Sl} {c : List Int} (h : MD b l p B H t c) {i : Nat} (hi : i < t.len) {v : Int} (hv : -2 ≤ v ∧ v ≤ 63) :
    ∃ H', H.sto t.blk (t.off + i * 1) [.int .i64 v] = some H' ∧ MD b l p B H' t (c.set (t.off + i) v) := by
  have hf := h.fit
  obtain ⟨H', a1, a2, a3, a4⟩ := own_setB h.ow h.hb h.adv h.rd (t.off + i) (by omega) v
  refine ⟨H', ?_, h.hb, a3, a4, ?_, h.nn, by simpa using h.fit, by simpa using h.c16, fun m hm => ?_⟩
  · rw [Nat.mul_one] at a1 ⊢; rw [Nat.zero_add] at a1; exact a1
  · rw [List.length_set]; exact a2
  · rcases List.mem_or_eq_of_mem_set hm with h1 | h1
    · exact h.rg m h1
    · rw [h1]; exact hv
theorem MD.cut {b : Nat} {l : List Int} {p : Nat} {B H : Hp} {t : Sl} {c : List Int} (h : MD b l p B H t c) (hl : 0 < t.len) : MD b l p B H (Sl.mk t.nil t.blk (t.off + (1 : Int).toNat * 1) (((t.len : Int) : Int) - 1).toNat) c :=
  ⟨h.hb, h.adv, h.rd, h.ow, h.nn, by have := h.fit; simp only [Int.toNat_one]; omega, h.c16, h.rg⟩
theorem MD.new {b : Nat} {l : List Int} {p : Nat} {B Hq H : Hp} {t : Sl} {c : List Int} (hb : b < B.length) (hB : B.length ≤ Hq.length) (ha : Adv b B H) (hr : RD b H l p) (ho : Own 1 Hq H t (c.map (.int .i64))) (h16 : c.length ≤ 16) (hg : ∀ m ∈ c, -2 ≤ m ∧ m ≤ 63) : MD b l p B H t c := by
  have hl := ho.len
  simp at hl
  have e : Sl.mk false t.blk 0 c.length = t := by
    have h1 := ho.nn; have h2 := ho.off
    cases t; simp_all
  exact ⟨hb, ha, hr, by rw [e]; exact ⟨ho.nn, ho.off, Nat.le_trans hB ho.blk, ho.get, ho.len⟩, ho.nn, by have := ho.off; omega, h16, hg⟩
/-- Masks and a size, drawn. -/
def MasksDraw (b : Nat) (l : List Int) (p0 : Nat) (B : Hp) (r : An) : Prop :=
  ∃ n t c p' H', r = some (.tup [.sl 1 t, .int .i64 n], H') ∧ MD b l p' B H' t c ∧ p' ≤ p0 ∧ -1 ≤ n ∧ n ≤ 5

theorem Masks_j2 {k : Nat} (hk : 1000 ≤ k) {b : Nat} {l : List Int} {x1 n : Int} (hx1 : x1 < 1000000) (hn : 2 ≤ n ∧ n ≤ 4) {p p0 : Nat} (hp : p + 10 ≤ p0) (hp0 : p0 ≤ 999990000) {B H : Hp} {t : Sl} {c : List Int} (h : MD b l p B H t c) (h0 : 0 < t.len) :
    MasksDraw b l p0 B (spec_l20Masks.j2 (callF PP orc k) k b 0 x1 n t H) := by
  obtain ⟨v, p1, H1, a1, a2, a3, a4, a5⟩ := odd_adv (show 2 ≤ k by omega) h.rd (by omega) hx1
  have h1 := h.step a4 a2
  have ht16 : t.len ≤ 16 := by have := h.fit; have := h.c16; omega
  cases v with
  | false =>
    refine ⟨n, t, c, p1, H1, ?_, h1, by omega, by omega, by omega⟩
    simp (disch := omega) only [spec_l20Masks.j2, spec_l20Masks.j3, dt, df, bt, bf, nt, nf, Bool.and_self, Bool.not_true, Bool.not_false, cond_true, cond_false, Int.toNat_natCast, Int.toNat_zero, Int.toNat_one, Option.bind_some, wr, AV.toB, AV.toI, AV.toS, if_true, a1]
  | true =>
    obtain ⟨w, H2, b1, b2, b3, b4, b5⟩ := pick_adv (show 1 ≤ k by omega) a2 (by omega) 3
    have h2 := h1.step b3 b2
    have w3 := b5 (by omega)
    by_cases w0 : w = 0
    · obtain ⟨i, H3, c1, c2, c3, c4, c5⟩ := pick_adv (show 1 ≤ k by omega) b2 (by omega) (t.len : Int)
      have h3 := h2.step c3 c2
      have i1 := c5 (by omega)
      obtain ⟨z, H4, d1, d2, d3, d4, d5⟩ := pick_adv (show 1 ≤ k by omega) c2 (by omega) 3
      have h4 := h3.step d3 d2
      have z1 := d5 (by omega)
      obtain ⟨y, e1, e2, e3⟩ : ∃ y, (([.int .i64 (-2), .int .i64 1, .int .i64 (pw (n + 1))] : List AV)[z.toNat * 1]?) = some (.int .i64 y) ∧ -2 ≤ y ∧ y ≤ 63 := by
        obtain ⟨_, _, t3⟩ := topMask_pw hn
        obtain ⟨_, t2, _⟩ := topMask_pw hn
        have : z = 0 ∨ z = 1 ∨ z = 2 := by omega
        rcases this with rfl | rfl | rfl
        · exact ⟨-2, rfl, by omega, by omega⟩
        · exact ⟨1, rfl, by omega, by omega⟩
        · exact ⟨pw (n + 1), rfl, by omega, by omega⟩
      obtain ⟨H5, f1, f2⟩ := h4.set (i := i.toNat) (by omega) ⟨e2, e3⟩
      have z3 : z < ((3 : Nat) : Int) := by omega
      refine ⟨n, t, _, _, H5, ?_, f2, by omega, by omega, by omega⟩
      simp (disch := omega) only [spec_l20Masks.j2, spec_l20Masks.j3, dt, df, bt, bf, nt, nf, Bool.and_self, Bool.not_true, Bool.not_false, cond_true, cond_false, Int.toNat_natCast, Int.toNat_zero, Int.toNat_one, Option.bind_some, wr, AV.toB, AV.toI, AV.toS, if_true, a1, b1, c1, d1, wr (n := n + 1), iN, m_shl (v := n + 1), e1, AV.cell, f1]
    · by_cases w1 : w = 1
      · refine ⟨n, _, c, _, H2, ?_, h2.cut h0, by omega, by omega, by omega⟩
        simp (disch := omega) only [spec_l20Masks.j2, spec_l20Masks.j3, dt, df, bt, bf, nt, nf, Bool.and_self, Bool.not_true, Bool.not_false, cond_true, cond_false, Int.toNat_natCast, Int.toNat_zero, Int.toNat_one, Option.bind_some, wr, AV.toB, AV.toI, AV.toS, if_true, a1, b1, w1]
        rw [if_pos ⟨⟨by omega, by omega, by omega, trivial⟩, by omega, trivial⟩]
      · obtain ⟨m, p3, H3, c1, c2, c3, c4, c5, c6, c7⟩ := l20Size_ok (show 3 ≤ k by omega) b2 (by omega) (n := 1) (by omega)
        refine ⟨m, t, c, p3, H3, ?_, h2.step c4 c2, by omega, c5, c6⟩
        simp (disch := omega) only [spec_l20Masks.j2, spec_l20Masks.j3, dt, df, bt, bf, nt, nf, Bool.and_self, Bool.not_true, Bool.not_false, cond_true, cond_false, Int.toNat_natCast, Int.toNat_zero, Int.toNat_one, Option.bind_some, wr, AV.toB, AV.toI, AV.toS, if_true, a1, b1, c1]
theorem masks_rg {n : Int} {l : List Int} (h : masksOk n l = true) : l.length ≤ 16 ∧ 0 < l.length ∧ ∀ m ∈ l, -2 ≤ m ∧ m ≤ 63 := by
  obtain ⟨h1, h2, h3⟩ := masksOk_iff.1 h
  have := masks_len h
  refine ⟨by omega, by omega, fun m hm => ?_⟩
  have := (maskOk_iff.1 (h2 m hm)).1
  have := topMask_le n
  omega
theorem Masks_j1 {k : Nat} (hk : 2000600 ≤ k) {b : Nat} {l : List Int} {x1 n : Int} (hx1 : x1 < 1000000) (hn : 2 ≤ n ∧ n ≤ 4) {p p0 : Nat} (hp : p + 520 ≤ p0) (hp0 : p0 ≤ 899990000) {B H : Hp} {t : Sl} {c : List Int} (h : MD b l p B H t c) (h0 : 0 < t.len) :
    MasksDraw b l p0 B (spec_l20Masks.j1 (callF PP orc k) k b 0 x1 n t H) := by
  obtain ⟨v, H1, a1, a2, a3, a4, a5⟩ := pick_adv (show 1 ≤ k by omega) h.rd (by omega) 2
  have h1 := h.step a3 a2
  by_cases c0 : v = 0
  · obtain ⟨m, gs, s, given, rs, p2, H2, b1, b2, b3, b4, b5, b6⟩ := l20Puzzle_ok (show 2000500 ≤ k by omega) (x1 := 0) (by omega) a2 (by omega)
    have hv := b6 (by omega)
    have h2 := h1.step b4 b2
    have hz := b5.at'
    obtain ⟨u, H3, c1, c2, c3⟩ := specStartMasks_ok (show 2000010 ≤ k by omega) hz
    obtain ⟨w, H4, d1, d2, d3, d4, d5⟩ := pick_adv (show 1 ≤ k by omega) (b2.pf c2) (by omega) 2
    have hw := d5 (by omega)
    have hs : masksOk m (startV m given (rs.map R.val)) = true := by
      unfold startV; rw [ip hv]; exact openOf_ok (puzzleV_iff hv).1
    have hb2 : b < H2.length := by have := h.hb; have := h.adv.le; have := a3.le; have := b4.le; omega
    have hz4 := (b5.adv (show b < H1.length by have := h.hb; have := h.adv.le; have := a3.le; omega) ((pf_adv c2).trans d3)).at'
    have r3 := (d3.own hb2 c3)
    obtain ⟨x, H5, e1, e2, e3⟩ := specNarrowAll_ok (show 2000070 ≤ k by omega) hz4 (own_reads r3) (by have := masks_rg hs; omega) (1 + w)
    have hall : masksOk m (allV m given (rs.map R.val) (startV m given (rs.map R.val)) (1 + w)).1 = true := by
      unfold allV
      rw [ip ⟨hv, hs, by omega, by omega⟩]
      exact (run_end (narrow_good hv (by omega)) hs).1
    obtain ⟨q1, q2, q3⟩ := masks_rg hall
    have hxl := (own_reads e3).len
    have h5 : MD b l (p2 + 1) B H5 x _ := MD.new h.hb (by have := h.adv.le; have := a3.le; have := b4.le; have := c2.length_le; have := d3.le; omega) ((((h.adv.trans a3).trans b4).trans ((pf_adv c2).trans d3)).trans (pf_adv e2)) (d2.pf e2) e3 q1 q3
    have := Masks_j2 (show 1000 ≤ k by omega) hx1 hz.n4 (p0 := p0) (by omega) (by omega) h5 (by omega)
    simp (disch := omega) only [spec_l20Masks.j1, dt, df, bt, bf, nt, nf, Bool.and_self, Bool.not_true, Bool.not_false, cond_true, cond_false, Int.toNat_natCast, Int.toNat_zero, Int.toNat_one, Option.bind_some, wr, AV.toB, AV.toI, AV.toS, if_true, a1, c0, b1, AV.isAgg, AV.isTup, AV.nth, AV.cel, List.length_cons, List.length_nil, List.getD_cons_zero, List.getD_cons_succ, beq_self_eq_true, c1, d1, wr (n := 1 + w), e1]
    exact this
  · have := Masks_j2 (show 1000 ≤ k by omega) hx1 hn (p0 := p0) (by omega) (by omega) h1 h0
    simp (disch := omega) only [spec_l20Masks.j1, dt, df, bt, bf, nt, nf, Bool.and_self, Bool.not_true, Bool.not_false, cond_true, cond_false, Int.toNat_natCast, Int.toNat_zero, Int.toNat_one, Option.bind_some, wr, AV.toB, AV.toI, AV.toS, if_true, a1]
    exact this
theorem Masks_l0 {k : Nat} (hk : 2000600 ≤ k) {b : Nat} {l : List Int} {x1 n : Int} (hx1 : x1 < 1000000) (hn : 2 ≤ n ∧ n ≤ 4) {p0 : Nat} (hp0 : p0 ≤ 899990000) {B : Hp} (hb : b < B.length) :
    ∀ (j i fuel : Nat) (H : Hp) (t : Sl) (a : List Int) (p : Nat), ((i + j : Nat) : Int) = n * n → j < fuel → p + 520 + 3 * j ≤ p0 → Adv b B H → RD b H l p → Own 1 B H t (a.map (.int .i64)) → a.length = i → (∀ m ∈ a, -2 ≤ m ∧ m ≤ 63) →
      MasksDraw b l p0 B (spec_l20Masks.l0 (callF PP orc k) k fuel b 0 x1 n t (i : Int) H) := by
  have hnn : 4 ≤ n * n ∧ n * n ≤ 16 := by
    have : n = 2 ∨ n = 3 ∨ n = 4 := by omega
    rcases this with rfl | rfl | rfl <;> decide
  have hpw : 4 ≤ pw n ∧ pw n ≤ 16 := by
    have : n = 2 ∨ n = 3 ∨ n = 4 := by omega
    rcases this with rfl | rfl | rfl <;> decide
  intro j
  induction j with
  | zero =>
    intro i fuel H t a p hi hf hp hadv hrd ho ha hr
    obtain ⟨fuel, rfl⟩ : ∃ q, fuel = q + 1 := ⟨fuel - 1, by omega⟩
    have htl := (own_reads ho).len
    have := Masks_j1 hk hx1 hn (p0 := p0) (by omega) hp0 (MD.new hb (Nat.le_refl _) hadv hrd ho (by omega) hr) (by omega)
    simp (disch := omega) only [spec_l20Masks.l0, df, cond_false, wr (n := n * n)]
    exact this
  | succ j ih =>
    intro i fuel H t a p hi hf hp hadv hrd ho ha hr
    obtain ⟨fuel, rfl⟩ : ∃ q, fuel = q + 1 := ⟨fuel - 1, by omega⟩
    obtain ⟨v, H1, a1, a2, a3, a4, a5⟩ := pick_adv (show 1 ≤ k by omega) hrd (by omega) (pw n)
    have v1 := a5 (by omega)
    obtain ⟨w, H2, b1, b2, b3, b4, b5⟩ := pick_adv (show 1 ≤ k by omega) a2 (by omega) n
    have w1 := b5 (by omega)
    obtain ⟨z, H3, c1, c2, c3, c4, c5⟩ := pick_adv (show 1 ≤ k by omega) b2 (by omega) 3
    have z1 := c5 (by omega)
    obtain ⟨t1, t2, t3⟩ := topMask_pw hn
    have tl := topMask_le n
    have hpw2 : 0 ≤ pw (1 + w) ∧ pw (1 + w) ≤ 16 := by
      have : w = 0 ∨ w = 1 ∨ w = 2 ∨ w = 3 := by omega
      rcases this with rfl | rfl | rfl | rfl <;> decide
    obtain ⟨y, e1, e2, e3⟩ : ∃ y, (([.int .i64 (v * 2), .int .i64 (topMask n), .int .i64 (pw (1 + w))] : List AV)[z.toNat * 1]?) = some (.int .i64 y) ∧ -2 ≤ y ∧ y ≤ 63 := by
      have : z = 0 ∨ z = 1 ∨ z = 2 := by omega
      rcases this with rfl | rfl | rfl
      · exact ⟨_, rfl, by omega, by omega⟩
      · exact ⟨_, rfl, by omega, by omega⟩
      · exact ⟨_, rfl, by omega, by omega⟩
    have adv3 := ((a3.trans b3).trans c3)
    have ho3 := adv3.own hb ho
    have o' : Own 1 [] H3 t (a.map (.int .i64)) := ⟨ho3.nn, ho3.off, Nat.zero_le _, ho3.get, ho3.len⟩
    have htl := (own_reads ho).len
    obtain ⟨H4, d1, d2, d3, d4, d5⟩ := own_app1 o' List.nil_prefix y (by omega)
    have hB3 := (hadv.trans adv3)
    have hle := hB3.le
    have ho4 : Own 1 B H4 (Sl.mk false H3.length 0 (t.len + 1)) ((a ++ [y]).map (.int .i64)) := ⟨d3.nn, d3.off, hle, d3.get, d3.len⟩
    have := ih (i + 1) fuel H4 _ (a ++ [y]) (p + 1 + 1 + 1) (by push_cast at hi ⊢; omega) (by omega) (by omega) (adv_but hB3 d4 ho3.blk (by omega)) (c2.but' d4 (by have := ho3.blk; omega) ho3.get (ints_no_u8 _)) ho4 (by simp; omega) (fun m hm => by
      rcases List.mem_append.1 hm with h | h
      · exact hr m h
      · rw [List.mem_singleton] at h; rw [h]; exact ⟨e2, e3⟩)
    push_cast at this
    have z3 : z < ((3 : Nat) : Int) := by omega
    have e4 : pw (n + 1) - 2 = topMask n := t1
    simp (disch := omega) only [spec_l20Masks.l0, dt, df, bt, bf, nt, nf, Bool.and_self, Bool.not_true, Bool.not_false, cond_true, cond_false, Int.toNat_natCast, Int.toNat_zero, Int.toNat_one, Option.bind_some, wr, AV.toB, AV.toI, AV.toS, if_true, wr (n := n * n), wr (n := n + 1), wr (n := v * 2), wr (n := 1 + w), wr (n := (i : Int) + 1), iN, m_shl (v := n), m_shl (v := n + 1), m_shl (v := 1 + w), a1, b1, c1, e4, wr (n := topMask n), e1, AV.cell, d1]
    exact this
theorem l20Masks_ok {k : Nat} (hk : 2000601 ≤ k) {b : Nat} {l : List Int} {x1 : Int} (hx1 : x1 < 1000000) {p : Nat} {H : Hp} (hrd : RD b H l p) (hp : p ≤ 800000000) :
    MasksDraw b l (p + 600) H (callF PP orc k spec_l20Masks.id [.ptr b 0, .int .i64 x1] H) := by
  obtain ⟨k, rfl⟩ : ∃ q, k = q + 1 := ⟨k - 1, by omega⟩
  rw [spec_l20Masks.call]
  obtain ⟨n, p1, H1, a1, a2, a3, a4, a5, a6, a7⟩ := l20Size_ok (show 3 ≤ k by omega) hrd (by omega) (n := 0) (by omega)
  have hn := a7 (by omega)
  have hb0 := hrd.lt
  have q1 : H1 <+: H1 ++ [some (Blk.mk false [])] := List.prefix_append _ _
  have hnew := own_new 1 H1 (([] : List Int).map (.int .i64)) 0 rfl
  have hnn : 4 ≤ n * n ∧ n * n ≤ 16 := by
    have : n = 2 ∨ n = 3 ∨ n = 4 := by omega
    rcases this with rfl | rfl | rfl <;> decide
  have := Masks_l0 (show 2000600 ≤ k by omega) hx1 hn (p0 := p + 600) (by omega) hb0 (n * n).toNat 0 k (H1 ++ [some (Blk.mk false [])]) (Sl.mk false H1.length 0 0) [] p1 (by omega) (by omega) (by omega) (a4.trans (pf_adv q1)) (a2.pf q1) ⟨rfl, rfl, a4.le, by simp, rfl⟩ rfl (fun m hm => by cases hm)
  simp only [spec_l20Masks.f, dt, df, bt, bf, nt, nf, Bool.and_self, Bool.not_true, Bool.not_false, cond_true, cond_false, Int.toNat_natCast, Int.toNat_zero, Int.toNat_one, Option.bind_some, wr, AV.toB, AV.toI, AV.toS, if_true, a1]
  exact this
end Go.Proofs.Ytjojhbdghhmeeaa.Rp
/- Masks out of a code; slices of lists. No conditions. -/
set_option linter.unusedVariables false
set_option linter.unusedSimpArgs false
namespace Go.Proofs.Ytjojhbdghhmeeaa.Rp
open Go Go.RowKit Go.Proofs.Ytjojhbdghhmeeaa.Ab

/-- Masks and a size, drawn out of a code. -/
def DrawnM (H : Hp) (r : An) : Prop := ∃ n t v H', r = some (.tup [.sl 1 t, .int .i64 n], H') ∧ H <+: H' ∧ Reads .i64 H' t v ∧ t.nil = false ∧ v.length ≤ 16 ∧ (∀ m ∈ v, -2 ≤ m ∧ m ≤ 63) ∧ -1 ≤ n ∧ n ≤ 5
theorem open_masks {k : Nat} (hk : 2000601 ≤ k) {H : Hp} {s : Sl} {l : List Int} (hs : Reads .u8 H s l) (hb : ∀ x ∈ l, 0 ≤ x ∧ x ≤ 255) {x1 : Int} (hx1 : x1 < 1000000) :
    ∃ H1 n t c l' p' H', callF PP orc k spec_l20Open.id [.sl 1 s] H = some (.ptr H.length 0, H1) ∧ callF PP orc k spec_l20Masks.id [.ptr H.length 0, .int .i64 x1] H1 = some (.tup [.sl 1 t, .int .i64 n], H') ∧ H <+: H' ∧ H <+: H1 ∧ MD H.length l' p' H1 H' t c ∧ p' ≤ 700 ∧ -1 ≤ n ∧ n ≤ 5 := by
  obtain ⟨l', H1, a1, a2, a3, a4⟩ := l20Open_ok (show 1 ≤ k by omega) hs hb
  obtain ⟨n, t, c, p', H', b1, b2, b3, b4, b5⟩ := l20Masks_ok hk hx1 a3 (by omega)
  exact ⟨H1, n, t, c, l', p', H', a1, b1, b2.adv.but.pf (Nat.le_refl _) a2 b2.adv.le, a2, b2, by omega, b4, b5⟩
theorem MD.drawn {b : Nat} {l : List Int} {p : Nat} {B H0 H : Hp} {t : Sl} {c : List Int} (h : MD b l p B H t c) (g : H0 <+: H) {n : Int} (h1 : -1 ≤ n) (h2 : n ≤ 5) : DrawnM H0 (some (.tup [.sl 1 t, .int .i64 n], H)) :=
  ⟨n, t, valS t c, H, rfl, g, h.reads, h.nn, h.l16, h.rgv, h1, h2⟩
theorem odd_mask {n : Int} {l : List Int} (h : 1 ∈ l) : masksOk n l = false := by
  rw [Bool.eq_false_iff]
  intro hc
  have := (maskOk_iff.1 ((masksOk_iff.1 hc).2.1 1 h)).2
  exact absurd this (by decide)
end Go.Proofs.Ytjojhbdghhmeeaa.Rp
/- A copy of a list: the program's own side. No conditions. -/
set_option linter.unusedVariables false
set_option linter.unusedSimpArgs false
namespace Go.Proofs.Ytjojhbdghhmeeaa.Rp
open Go Go.RowKit Go.Proofs.Ytjojhbdghhmeeaa.Ab

theorem Clone_own {k : Nat} (hk : 1 ≤ k) {H : Hp} {s : Sl} {l : List Int} (hs : Reads .i64 H s l) (hn : s.nil = false) (hl : l.length ≤ 1000) :
    callF PP orc k slices_Clone_int.id [.sl 1 s] H = some (.sl 1 (Sl.mk false H.length 0 l.length), H ++ [some (Blk.mk false (l.map (.int .i64)))]) := by
  obtain ⟨k, rfl⟩ : ∃ q, k = q + 1 := ⟨k - 1, by omega⟩
  rw [slices_Clone_int.call]
  simp only [slices_Clone_int.f, hn, cond_false, read_ok hs, hs.len, appl_ok _ _ _ (show l.length ≤ 1000000 by omega), Option.bind_some, cells_ok, Bool.and_self, cond_true]
end Go.Proofs.Ytjojhbdghhmeeaa.Rp
/- Rules: what holds, the masks of a rule (a closure that calls itself): the program's own side. No conditions. -/
set_option linter.unusedVariables false
set_option linter.unusedSimpArgs false
namespace Go.Proofs.Ytjojhbdghhmeeaa.Rp
open Go Go.RowKit Go.Proofs.Ytjojhbdghhmeeaa.Ab

theorem allValues_ok {k : Nat} (hk : 1 ≤ k) {n : Int} (hn : 2 ≤ n ∧ n ≤ 4) (H : Hp) : callF PP orc k impl_allValues.id [.int .i64 n] H = some (.int .i64 (topMask n), H) := by
  obtain ⟨k, rfl⟩ : ∃ q, k = q + 1 := ⟨k - 1, by omega⟩
  rw [impl_allValues.call]
  obtain ⟨p1, p2, p3⟩ := topMask_pw hn
  simp (disch := omega) only [impl_allValues.f, iN, m_shl (v := n + 1), p1, wr]

/-! ### impl.valuesHold -/
def KindLen (kind : Int) (m : Nat) : Prop := (kind = 1 ∨ kind = 2 ∨ kind = 3) ∨ ((kind = 4 ∨ kind = 5) ∧ 2 ≤ m)
theorem implHold_l0 {k : Nat} (hk : 2000001 ≤ k) {kind value : Int} {cs vs : Sl} {H : Hp} {vals : List Int} (hs : Reads .i64 H vs vals) (hl : Vals vals) (h2 : KindLen kind vals.length) :
    ∀ (j i fuel : Nat) (x5 x6 : Int), i + j = vals.length → j < fuel → 0 ≤ x5 → x5 ≤ 4 * i → 0 ≤ x6 → x6 ≤ 4 ^ i →
      impl_valuesHold.l0 (callF PP orc k) k fuel vs x5 x6 vs vals.length i kind cs value H = some (.bool (if kind = 1 then distFrom vals i j else if kind = 2 then decide ((vals.drop i).foldl (· + ·) x5 = value) else if kind = 3 then decide ((vals.drop i).foldl (· * ·) x6 = value)
        else if kind = 4 then decide (vals.getD 0 0 < vals.getD 1 0) else decide (mx (vals.getD 0 0 - vals.getD 1 0) (vals.getD 1 0 - vals.getD 0 0) = value)), H) := by
  have hv := hs.len
  have hl4 := hl.1
  have eqd : ∀ a b : Int, (a == b) = decide (a = b) := fun a b => by rw [Bool.eq_iff_iff]; simp
  unfold KindLen at h2
  intro j
  induction j with
  | zero =>
    intro i fuel x5 x6 hi hf h50 h51 h60 h61
    obtain ⟨fuel, rfl⟩ : ∃ q, fuel = q + 1 := ⟨fuel - 1, by omega⟩
    rw [show vals.drop i = [] from List.drop_eq_nil_of_le (by omega)]
    simp (disch := omega) only [impl_valuesHold.l0, impl_valuesHold.j2, df, cond_false, distFrom, List.foldl_nil, eqd]
    by_cases k1 : kind = 1
    · subst k1; rfl
    by_cases k2 : kind = 2
    · subst k2; rfl
    by_cases k3 : kind = 3
    · subst k3; rfl
    have hlen : 2 ≤ vals.length := by omega
    have a0 := hl.at 0
    have a1 := hl.at 1
    by_cases k4 : kind = 4
    · simp (disch := omega) only [k2, k3, k4, if_false, dt, df, Bool.and_self, cond_true, cond_false, rdn hs, Option.bind_some, wr, Int.toNat_zero, Int.toNat_one]
      rfl
    · have k5 : kind = 5 := by omega
      subst k5
      simp (disch := omega) only [if_false, dt, df, Bool.and_self, cond_true, cond_false, rdn hs, Option.bind_some, wr, Int.toNat_zero, Int.toNat_one]
      rfl
  | succ j ih =>
    intro i fuel x5 x6 hi hf h50 h51 h60 h61
    obtain ⟨fuel, rfl⟩ : ∃ q, fuel = q + 1 := ⟨fuel - 1, by omega⟩
    have h3 : i < vals.length := by omega
    obtain ⟨a0, a1⟩ := hl.at i
    have hd : (vals.drop i) = vals.getD i 0 :: vals.drop (i + 1) := by
      rw [List.drop_eq_getElem_cons h3, List.getD_eq_getElem?_getD, List.getElem?_eq_getElem h3]; rfl
    have hp : (4 : Int) ^ i ≤ 64 := by
      have : i = 0 ∨ i = 1 ∨ i = 2 ∨ i = 3 := by omega
      rcases this with rfl | rfl | rfl | rfl <;> decide
    have hm : x6 * vals.getD i 0 ≤ x6 * 4 := Int.mul_le_mul_of_nonneg_left a1 h60
    have hm0 : 0 ≤ x6 * vals.getD i 0 := Int.mul_nonneg h60 a0
    have hq : (4 : Int) ^ (i + 1) = 4 ^ i * 4 := Int.pow_succ _ _
    have h6 := ih (i + 1) fuel (x5 + vals.getD i 0) (x6 * vals.getD i 0) (by omega) (by omega) (by omega) (by omega) (by omega) (by omega)
    push_cast at h6
    rw [hd, List.foldl_cons, List.foldl_cons]
    by_cases k1 : kind = 1
    · have hc := Contains_ok hk (vals.getD i 0) (reads_pre hs i (by omega) vs.nil) (by simp; omega)
      have hsl : Sl.mk vs.nil vs.blk (vs.off + 0 * 1) ((i : Int) - 0).toNat = Sl.mk vs.nil vs.blk vs.off i := by simp
      subst k1
      simp only [if_true] at h6 ⊢
      rw [distFrom]
      simp (disch := omega) only [impl_valuesHold.l0, dt, bt, Bool.and_self, cond_true, Int.toNat_natCast, Int.toNat_zero, rdn hs, Option.bind_some, wr, hsl]
      rw [ip (by simp; omega), hc]
      cases (vals.take i).contains (vals.getD i 0) with
      | true => simp only [impl_valuesHold.j1, dt, df, bt, bf, nt, nf, Bool.and_self, Bool.not_true, Bool.not_false, cond_true, cond_false, Int.toNat_natCast, Int.toNat_zero, Int.toNat_one, Option.bind_some, wr, AV.toB, AV.toI, AV.toS, if_true, Bool.false_and]
      | false => simp (disch := omega) only [impl_valuesHold.j1, impl_valuesHold.j3, dt, df, bt, bf, nt, nf, Bool.and_self, Bool.not_true, Bool.not_false, cond_true, cond_false, Int.toNat_natCast, Int.toNat_zero, Int.toNat_one, Option.bind_some, wr, AV.toB, AV.toI, AV.toS, if_true, h6, Bool.true_and]
    · simp only [if_neg k1] at h6 ⊢
      simp (disch := omega) only [impl_valuesHold.l0, impl_valuesHold.j1, impl_valuesHold.j3, dt, bf, Bool.and_self, cond_true, cond_false, Int.toNat_natCast, rdn hs, Option.bind_some, wr, h6]
theorem valuesHold_ok {k : Nat} (hk : 2000002 ≤ k) {kind value : Int} {cs vs : Sl} {H : Hp} {vals : List Int} (hs : Reads .i64 H vs vals) (hl : Vals vals) (h2 : KindLen kind vals.length) :
    callF PP orc k impl_valuesHold.id [.agg [.int .i64 kind, .sl 1 cs, .int .i64 value], .sl 1 vs] H = some (.bool (holdsV kind value vals), H) := by
  obtain ⟨k, rfl⟩ : ∃ q, k = q + 1 := ⟨k - 1, by omega⟩
  rw [impl_valuesHold.call]
  have h4 := hl.1
  have := implHold_l0 (show 2000001 ≤ k by omega) (kind := kind) (value := value) (cs := cs) hs hl h2 vals.length 0 k 0 1 (by omega) (by omega) (by omega) (by omega) (by omega) (by omega)
  simp only [List.drop_zero] at this
  have e := hs.len
  show impl_valuesHold.l0 (callF PP orc k) k k vs 0 1 vs (vs.len : Int) 0 kind cs value H = _
  rw [e]
  exact this

/-! ### impl.ruleMasks -/
/-- What the closure sees: the boxes of its variables. -/
structure Try (H : Hp) (cb : Nat) (rb vb ob tb : Nat) (kind value : Int) (cs ws vs os : Sl) : Prop where
  c : H[cb]? = some (some ⟨false, [.sl 1 ws]⟩)
  r : H[rb]? = some (some ⟨false, [.int .i64 kind, .sl 1 cs, .int .i64 value]⟩)
  v : H[vb]? = some (some ⟨false, [.sl 1 vs]⟩)
  o : H[ob]? = some (some ⟨false, [.sl 1 os]⟩)
  t : H[tb]? = some (some ⟨false, [.fn impl_ruleMasks_1.id [.ptr cb 0, .ptr rb 0, .ptr vb 0, .ptr ob 0, .ptr tb 0]]⟩)
  ne : (cb ≠ vs.blk ∧ cb ≠ os.blk) ∧ (rb ≠ vs.blk ∧ rb ≠ os.blk) ∧ (vb ≠ vs.blk ∧ vb ≠ os.blk) ∧ (ob ≠ vs.blk ∧ ob ≠ os.blk) ∧ (tb ≠ vs.blk ∧ tb ≠ os.blk)
theorem Try.adv {H H' : Hp} {cb rb vb ob tb : Nat} {kind value : Int} {cs ws vs os : Sl} (h : Try H cb rb vb ob tb kind value cs ws vs os) (g : Adv2 vs.blk os.blk H H') : Try H' cb rb vb ob tb kind value cs ws vs os := by
  obtain ⟨n1, n2, n3, n4, n5⟩ := h.ne
  exact ⟨g.but _ _ n1.1 n1.2 h.c, g.but _ _ n2.1 n2.2 h.r, g.but _ _ n3.1 n3.2 h.v, g.but _ _ n4.1 n4.2 h.o, g.but _ _ n5.1 n5.2 h.t, h.ne⟩
theorem box_sl {H : Hp} {b : Nat} {s : Sl} (h : H[b]? = some (some ⟨false, [.sl 1 s]⟩)) : ldS 1 H b 0 = some s := by unfold ldS Hp.cell; rw [h]; simp [AV.toS]
theorem adv_adv2 {a c : Nat} {H H' : Hp} (h : Adv a H H') : Adv2 a c H H' := ⟨fun d x h1 _ hx => h.but d x h1 hx, h.le⟩
theorem adv_adv2' {a c : Nat} {H H' : Hp} (h : Adv c H H') : Adv2 a c H H' := ⟨fun d x _ h2 hx => h.but d x h2 hx, h.le⟩
theorem Adv2.tr {a c : Nat} {H H1 H2 : Hp} (h : Adv2 a c H H1) (h' : Adv2 a c H1 H2) : Adv2 a c H H2 := h.trans h' (.inl rfl)

theorem Try_l0 (rec : Rec) (k : Nat) {B : Hp} {ob : Nat} {vs os : Sl} {vals : List Int} (hv : Vals vals) (hne : vs.blk ≠ os.blk) (hob : ob ≠ os.blk) :
    ∀ (j i fuel : Nat) (H : Hp) (fl : List Int), i + j = vals.length → j < fuel → B <+: H → Reads .i64 H vs vals → H[ob]? = some (some ⟨false, [.sl 1 os]⟩) → Ms fl → vals.length ≤ fl.length → Own 1 B H os (fl.map (.int .i64)) →
      ∃ H', impl_ruleMasks_1.l0 rec k fuel ob 0 vs vals.length i H = some (.tup [], H') ∧ B <+: H' ∧ Adv os.blk H H' ∧ Own 1 B H' os ((orFrom vals fl i j).map (.int .i64)) := by
  have hl := hv.1
  intro j
  induction j with
  | zero =>
    intro i fuel H fl hi hf hp hs hb hm hfl ho
    obtain ⟨fuel, rfl⟩ : ∃ q, fuel = q + 1 := ⟨fuel - 1, by omega⟩
    exact ⟨H, by simp (disch := omega) only [impl_ruleMasks_1.l0, dt, df, bt, bf, nt, nf, Bool.and_self, Bool.not_true, Bool.not_false, cond_true, cond_false, Int.toNat_natCast, Int.toNat_zero, Int.toNat_one, Option.bind_some, wr, AV.toB, AV.toI, AV.toS, if_true], hp, Adv.refl _ _, ho⟩
  | succ j ih =>
    intro i fuel H fl hi hf hp hs hb hm hfl ho
    obtain ⟨fuel, rfl⟩ : ∃ q, fuel = q + 1 := ⟨fuel - 1, by omega⟩
    have hfs : os.len = fl.length := by have := ho.len; simpa using this
    have hvl := hs.len
    obtain ⟨v0, v1⟩ := hv.at i
    obtain ⟨H1, a1, a2, a3, a4⟩ := own_set1 ho hp i (by omega) (mOr (fl.getD i 0) (pw (vals.getD i 0)))
    obtain ⟨H', b1, b2, b3, b4⟩ := ih (i + 1) fuel H1 _ (by omega) (by omega) a2 (a4.reads hne hs) (a4.but _ _ hob hb) (hm.set i (M.or (hm.at i) (M.pw v0 v1))) (by simpa using hfl) a3
    push_cast at b1
    refine ⟨H', ?_, b2, a4.trans b3, b4⟩
    simp (disch := omega) only [impl_ruleMasks_1.l0, dt, df, bt, bf, nt, nf, Bool.and_self, Bool.not_true, Bool.not_false, cond_true, cond_false, Int.toNat_natCast, Int.toNat_zero, Int.toNat_one, Option.bind_some, wr, AV.toB, AV.toI, AV.toS, if_true, box_sl hb, rdn (own_reads ho), rdn hs, iN, m_shl v0, m_or (hm.at i) (M.pw v0 v1), a1, b1]
theorem okTry : okF PP impl_ruleMasks_1.id = true := by kernel_rfl

theorem Try_ok {B : Hp} {cb rb vb ob tb : Nat} {kind value : Int} {cs ws vs os : Sl} {own : List Int} (hw : Reads .i64 B ws own) (hol : own.length ≤ 4) (hom : ∀ m ∈ own, (0 ≤ m ∧ m ≤ 30) ∧ m.tmod 2 = 0) (hk2 : KindLen kind own.length) (hne : vs.blk ≠ os.blk) :
    ∀ (rem k : Nat), 2000010 + rem ≤ k → ∀ (H : Hp) (vals rest fl : List Int), vals.length + rem = own.length → rest.length = rem → B <+: H → Try H cb rb vb ob tb kind value cs ws vs os → Own 1 B H vs ((vals ++ rest).map (.int .i64)) → Vals vals → fl.length = own.length → Ms fl → Own 1 B H os (fl.map (.int .i64)) →
      ∃ H' rest', callF PP orc k impl_ruleMasks_1.id [.int .i64 (vals.length : Int), .ptr cb 0, .ptr rb 0, .ptr vb 0, .ptr ob 0, .ptr tb 0] H = some (.tup [], H') ∧ rest'.length = rem ∧ B <+: H' ∧ Adv2 vs.blk os.blk H H' ∧ Own 1 B H' vs ((vals ++ rest').map (.int .i64)) ∧ Own 1 B H' os ((ways (holdsV kind value) (own.drop vals.length) vals fl).map (.int .i64)) := by
  intro rem
  induction rem with
  | zero =>
    intro k hk H vals rest fl hl hr hp ht hv hvals hfl hm ho
    obtain ⟨k, rfl⟩ : ∃ q, k = q + 1 := ⟨k - 1, by omega⟩
    rw [impl_ruleMasks_1.call]
    have er : rest = [] := List.length_eq_zero_iff.1 hr
    subst er
    rw [List.append_nil] at hv
    have hwl := hw.len
    have rv := own_reads hv
    have hvl := rv.len
    have h1 := valuesHold_ok (show 2000002 ≤ k by omega) (kind := kind) (value := value) (cs := cs) rv hvals (by rw [show vals.length = own.length by omega]; exact hk2)
    have r0 : ldI .i64 H rb 0 = some kind := by unfold ldI Hp.cell; rw [ht.r]; simp [AV.toI]
    have r1 : ldS 1 H rb (0 + 1) = some cs := by unfold ldS Hp.cell; rw [ht.r]; simp [AV.toS]
    have r2 : ldI .i64 H rb (0 + 1 + 1) = some value := by unfold ldI Hp.cell; rw [ht.r]; simp [AV.toI]
    rw [show own.drop vals.length = [] from List.drop_eq_nil_of_le (by omega), ways]
    cases hh : holdsV kind value vals with
    | true =>
      rw [hh] at h1
      obtain ⟨H', b1, b2, b3, b4⟩ := Try_l0 (callF PP orc k) k hvals hne ht.ne.2.2.2.1.2 vals.length 0 k H fl (by omega) (by have := hvals.1; omega) hp rv ht.o hm (by omega) ho
      refine ⟨H', [], ?_, rfl, b2, adv_adv2' b3, by rw [List.append_nil]; exact b3.but.own hne hv, b4⟩
      simp only [Int.natCast_zero] at b1
      simp (disch := omega) only [impl_ruleMasks_1.f, dt, df, bt, bf, nt, nf, Bool.and_self, Bool.not_true, Bool.not_false, cond_true, cond_false, Int.toNat_natCast, Int.toNat_zero, Int.toNat_one, Option.bind_some, wr, AV.toB, AV.toI, AV.toS, if_true, box_sl ht.c, box_sl ht.v, r0, r1, r2, h1, hvl, b1]
    | false =>
      rw [hh] at h1
      refine ⟨H, [], ?_, rfl, hp, Adv2.refl _ _ _, by rw [List.append_nil]; exact hv, by simpa using ho⟩
      simp (disch := omega) only [impl_ruleMasks_1.f, dt, df, bt, bf, nt, nf, Bool.and_self, Bool.not_true, Bool.not_false, cond_true, cond_false, Int.toNat_natCast, Int.toNat_zero, Int.toNat_one, Option.bind_some, wr, AV.toB, AV.toI, AV.toS, if_true, box_sl ht.c, box_sl ht.v, r0, r1, r2, h1]
  | succ rem ih =>
    intro k hk H vals rest fl hl hr hp ht hv hvals hfl hm ho
    obtain ⟨k, rfl⟩ : ∃ q, k = q + 1 := ⟨k - 1, by omega⟩
    rw [impl_ruleMasks_1.call]
    have hwl := hw.len
    have hcv : vals.length < own.length := by omega
    have hom' := hom _ (mem_getD hcv)
    have hd : own.drop vals.length = own.getD vals.length 0 :: own.drop (vals.length + 1) := by
      rw [List.drop_eq_getElem_cons hcv, List.getD_eq_getElem?_getD, List.getElem?_eq_getElem hcv]; rfl
    rw [hd, ways]
    generalize hmm : own.getD vals.length 0 = m at *
    have hM : M m := ⟨hom'.1.1, by have := hom'.1.2; omega⟩
    have hmv : maskVals m = mvFrom m 1 4 := by unfold maskVals; rw [if_pos hom']
    rw [hmv]
    have loop : ∀ (j v fuel : Nat) (Hc : Hp) (rest fl : List Int), v + j = 5 → 1 ≤ v → j < fuel → rest.length = rem + 1 → B <+: Hc → Try Hc cb rb vb ob tb kind value cs ws vs os → Own 1 B Hc vs ((vals ++ rest).map (.int .i64)) → fl.length = own.length → Ms fl → Own 1 B Hc os (fl.map (.int .i64)) →
        ∃ H' rest', impl_ruleMasks_1.l1 (callF PP orc k) k fuel (vals.length : Int) cb 0 vb 0 tb 0 v Hc = some (.tup [], H') ∧ rest'.length = rem + 1 ∧ B <+: H' ∧ Adv2 vs.blk os.blk Hc H' ∧ Own 1 B H' vs ((vals ++ rest').map (.int .i64)) ∧ Own 1 B H' os (((mvFrom m v j).foldl (fun f v => ways (holdsV kind value) (own.drop (vals.length + 1)) (vals ++ [v]) f) fl).map (.int .i64)) := by
      intro j
      induction j with
      | zero =>
        intro v fuel Hc rest fl hv5 hv1 hf hr hp ht hv hfl hm ho
        obtain ⟨fuel, rfl⟩ : ∃ q, fuel = q + 1 := ⟨fuel - 1, by omega⟩
        refine ⟨Hc, rest, ?_, hr, hp, Adv2.refl _ _ _, hv, ho⟩
        simp (disch := omega) only [impl_ruleMasks_1.l1, dt, df, bt, bf, nt, nf, Bool.and_self, Bool.not_true, Bool.not_false, cond_true, cond_false, Int.toNat_natCast, Int.toNat_zero, Int.toNat_one, Option.bind_some, wr, AV.toB, AV.toI, AV.toS, if_true]
      | succ j ihj =>
        intro v fuel Hc rest fl hv5 hv1 hf hr hp ht hv hfl hm ho
        obtain ⟨fuel, rfl⟩ : ∃ q, fuel = q + 1 := ⟨fuel - 1, by omega⟩
        have hvl := (own_reads hv).len
        simp only [List.length_append] at hvl
        have hb : mbit m v = has m v := by
          have := m_bit (v := (v : Int)) hM (by omega) (by omega)
          simpa [mbit] using this
        have hbit := m_bit' (v := (v : Int)) hM (by omega) (by omega)
        rw [Int.toNat_natCast] at hbit
        rw [mvFrom, hb]
        cases hh : has m v with
        | true =>
          rw [hh] at hbit
          obtain ⟨x, rest0, rfl⟩ : ∃ x rest0, rest = x :: rest0 := by
            cases rest with
            | nil => simp at hr
            | cons x r => exact ⟨x, r, rfl⟩
          obtain ⟨H1, a1, a2, a3, a4⟩ := own_set1 hv hp vals.length (by simp) (v : Int)
          have e1 : (vals ++ x :: rest0).set vals.length (v : Int) = (vals ++ [(v : Int)]) ++ rest0 := by
            rw [List.set_append_right _ _ (Nat.le_refl _), Nat.sub_self, List.set_cons_zero, List.append_assoc]; rfl
          rw [e1] at a3
          have ht1 := ht.adv (adv_adv2 (c := os.blk) a4)
          have hw1 := ways_ok (holdsV kind value) (own.drop (vals.length + 1)) (vals ++ [(v : Int)]) fl (hvals.app (by omega) ⟨by omega, by omega⟩) (by simp; omega) hm
          obtain ⟨H2, rest', b1, b2, b3, b4, b5, b6⟩ := ih k (by omega) H1 (vals ++ [(v : Int)]) rest0 fl (by simp; omega) (by simpa using hr) a2 ht1 a3 (hvals.app (by omega) ⟨by omega, by omega⟩) hfl hm (a4.but.own (Ne.symm hne) ho)
          rw [List.length_append, List.length_singleton] at b1 b6
          rw [List.append_assoc] at b5
          have adv2 : Adv2 vs.blk os.blk Hc H2 := (adv_adv2 (c := os.blk) a4).tr b4
          obtain ⟨H3, rest'', d1, d2, d3, d4, d5, d6⟩ := ihj (v + 1) fuel H2 ([(v : Int)] ++ rest') _ (by omega) (by omega) (by omega) (by simp; omega) b3 (ht.adv adv2) b5 (by rw [hw1.2]; exact hfl) hw1.1 b6
          have hf0 : ldF H1 tb 0 = some (impl_ruleMasks_1.id, [.ptr cb 0, .ptr rb 0, .ptr vb 0, .ptr ob 0, .ptr tb 0]) := by unfold ldF Hp.cell; rw [ht1.t]; simp [AV.toF]
          refine ⟨H3, rest'', ?_, d2, d3, adv2.tr d4, d5, ?_⟩
          · push_cast at d1 b1
            have rw0 := rdn (pf_reads hp hw) hcv
            rw [hmm] at rw0
            simp (disch := omega) only [impl_ruleMasks_1.l1, impl_ruleMasks_1.j2, dt, Bool.and_self, cond_true, Int.toNat_natCast, Option.bind_some, box_sl ht.c, box_sl ht.v, rw0, iN, hbit, hvl, a1, hf0, okTry, wr (n := (vals.length : Int) + 1), wr (n := (v : Int) + 1), List.cons_append, List.nil_append, List.all_cons, List.all_nil, AV.glob, AV.cell, b1, d1]
          · rw [if_pos rfl, List.cons_append, List.nil_append, List.foldl_cons]; exact d6
        | false =>
          rw [hh] at hbit
          obtain ⟨H3, rest'', d1, d2, d3, d4, d5, d6⟩ := ihj (v + 1) fuel Hc rest fl (by omega) (by omega) (by omega) hr hp ht hv hfl hm ho
          refine ⟨H3, rest'', ?_, d2, d3, d4, d5, ?_⟩
          · push_cast at d1
            have rw0 := rdn (pf_reads hp hw) hcv
            rw [hmm] at rw0
            simp (disch := omega) only [impl_ruleMasks_1.l1, impl_ruleMasks_1.j2, dt, Bool.and_self, cond_true, cond_false, Int.toNat_natCast, Option.bind_some, box_sl ht.c, rw0, iN, hbit, wr (n := (v : Int) + 1), d1]
          · rw [if_neg (by simp), List.nil_append]; exact d6
    obtain ⟨H', rest', b1, b2, b3, b4, b5, b6⟩ := loop 4 1 k H rest fl (by omega) (by omega) (by omega) hr hp ht hv hfl hm ho
    refine ⟨H', rest', ?_, b2, b3, b4, b5, b6⟩
    simp (disch := omega) only [impl_ruleMasks_1.f, dt, df, bt, bf, nt, nf, Bool.and_self, Bool.not_true, Bool.not_false, cond_true, cond_false, Int.toNat_natCast, Int.toNat_zero, Int.toNat_one, Option.bind_some, wr, AV.toB, AV.toI, AV.toS, if_true, box_sl ht.c]
    exact b1
end Go.Proofs.Ytjojhbdghhmeeaa.Rp
/- Masks: the program's own side. No conditions. -/
set_option linter.unusedVariables false
set_option linter.unusedSimpArgs false
namespace Go.Proofs.Ytjojhbdghhmeeaa.Rp
open Go Go.RowKit Go.Proofs.Ytjojhbdghhmeeaa.Ab

/-- A new list, or none. -/
def NilOr (H0 H : Hp) (t : Sl) (l : List Int) : Prop := (t = Sl.none ∧ l = []) ∨ Own 1 H0 H t (l.map (.int .i64))
theorem NilOr.reads {H0 H : Hp} {t : Sl} {l : List Int} (h : NilOr H0 H t l) : Reads .i64 H t l := by
  rcases h with ⟨h1, h2⟩ | h
  · subst h1; subst h2; exact reads_nil rfl
  · exact own_reads h
theorem NilOr.pf {H0 H H' : Hp} {t : Sl} {l : List Int} (h : NilOr H0 H t l) (g : H <+: H') : NilOr H0 H' t l := by
  rcases h with h | h
  · exact .inl h
  · exact .inr (own_pf h g)
theorem NilOr.base {H0 H1 H : Hp} {t : Sl} {l : List Int} (h : NilOr H1 H t l) (g : H0 <+: H1) : NilOr H0 H t l := by
  rcases h with h | h
  · exact .inl h
  · exact .inr (own_base h g)
theorem NilOr.nn {H0 H : Hp} {t : Sl} {l : List Int} (h : NilOr H0 H t l) (hl : l ≠ []) : t.nil = false := by
  rcases h with ⟨_, h⟩ | h
  · exact absurd h hl
  · exact h.nn
theorem tab_ones : ∀ a : Nat, a < 16 → cntM ((2 * a : Nat) : Int) = ((bif a.testBit 0 then 1 else 0) + (bif a.testBit 1 then 1 else 0) + (bif a.testBit 2 then 1 else 0) + (bif a.testBit 3 then 1 else 0)) := by decide +kernel
/-- How many values a mask has. -/
theorem OnesCount_ok {k : Nat} (hk : 2 ≤ k) {n m : Int} (hm : maskOk n m = true) (H : Hp) : callF PP orc k math_bits_OnesCount.id [.int .u64 (IntKind.u64.wrap m)] H = some (.int .i64 (cntM m), H) := by
  obtain ⟨k, rfl⟩ : ∃ q, k = q + 1 := ⟨k - 1, by omega⟩
  rw [math_bits_OnesCount.call]
  have h1 : callF PP orc k math_bits_OnesCount64.id [.int .u64 (IntKind.u64.wrap m)] H = some (.int .i64 (cntM m), H) := by
    obtain ⟨k, rfl⟩ : ∃ q, k = q + 1 := ⟨k - 1, by omega⟩
    rw [math_bits_OnesCount64.call]
    obtain ⟨h1, h2⟩ := maskOk_iff.1 hm
    have ht := topMask_le n
    obtain ⟨a, ha, ha16⟩ : ∃ a : Nat, m = ((2 * a : Nat) : Int) ∧ a < 16 := ⟨(m / 2).toNat, by rw [Int.tmod_eq_emod_of_nonneg h1.1] at h2; omega, by omega⟩
    subst ha
    have : a = 0 ∨ a = 1 ∨ a = 2 ∨ a = 3 ∨ a = 4 ∨ a = 5 ∨ a = 6 ∨ a = 7 ∨ a = 8 ∨ a = 9 ∨ a = 10 ∨ a = 11 ∨ a = 12 ∨ a = 13 ∨ a = 14 ∨ a = 15 := by omega
    rcases this with rfl | rfl | rfl | rfl | rfl | rfl | rfl | rfl | rfl | rfl | rfl | rfl | rfl | rfl | rfl | rfl <;> (show _ = _; kernel_rfl)
  simp only [math_bits_OnesCount.f, h1, Option.bind_some, AV.toI, if_true]
theorem all_getD {p : Int → Bool} {l : List Int} {i : Nat} (h : i < l.length) : (l.drop i).all p = (p (l.getD i 0) && (l.drop (i + 1)).all p) := by
  rw [List.drop_eq_getElem_cons h, List.all_cons, List.getD_eq_getElem?_getD, List.getElem?_eq_getElem h]; rfl
theorem tab_andnot : ∀ n : Nat, n < 5 → ∀ m : Nat, m < 64 → (n < 2 ∨ ((IntKind.i64.wrap (((BitVec.ofInt IntKind.i64.bits ((m : Nat) : Int) &&& ~~~(BitVec.ofInt IntKind.i64.bits (topMask n))).toNat : Int))) != 0) = !maskOk n m) := by decide +kernel
theorem implMasksValid_l2 {k : Nat} (hk : 1 ≤ k) {n : Int} (hn : 2 ≤ n ∧ n ≤ 4) {H : Hp} {s : Sl} {l : List Int} (hs : Reads .i64 H s l) (hl : l.length ≤ 1000) (hr : ∀ m ∈ l, -2 ≤ m ∧ m ≤ 63) :
    ∀ (j i fuel : Nat), i + j = l.length → j < fuel → impl_MasksValid.l2 (callF PP orc k) k fuel n s (l.length : Int) i H = some (.bool ((l.drop i).all (maskOk n)), H) := by
  have hsl := hs.len
  intro j
  induction j with
  | zero =>
    intro i fuel hi hf
    obtain ⟨fuel, rfl⟩ : ∃ q, fuel = q + 1 := ⟨fuel - 1, by omega⟩
    rw [List.drop_eq_nil_of_le (by omega)]
    simp (disch := omega) only [impl_MasksValid.l2, dt, df, bt, bf, nt, nf, Bool.and_self, Bool.not_true, Bool.not_false, cond_true, cond_false, Int.toNat_natCast, Int.toNat_zero, Int.toNat_one, Option.bind_some, wr, AV.toB, AV.toI, AV.toS, if_true, List.all_nil]
  | succ j ih =>
    intro i fuel hi hf
    obtain ⟨fuel, rfl⟩ : ∃ q, fuel = q + 1 := ⟨fuel - 1, by omega⟩
    have hi2 : i < l.length := by omega
    have hm := hr _ (mem_getD hi2)
    have d1 := ih (i + 1) fuel (by omega) (by omega)
    push_cast at d1
    rw [all_getD hi2]
    by_cases c : l.getD i 0 < 0
    · have e : maskOk n (l.getD i 0) = false := by
        rw [Bool.eq_false_iff]; intro h; have := (maskOk_iff.1 h).1; omega
      rw [e, Bool.false_and]
      simp (disch := omega) only [impl_MasksValid.l2, impl_MasksValid.j3, dt, df, bt, bf, nt, nf, Bool.and_self, Bool.not_true, Bool.not_false, cond_true, cond_false, Int.toNat_natCast, Int.toNat_zero, Int.toNat_one, Option.bind_some, wr, AV.toB, AV.toI, AV.toS, if_true, rdn hs]
    · have ht := tab_andnot n.toNat (by omega) (l.getD i 0).toNat (by omega)
      rw [show ((n.toNat : Nat) : Int) = n by omega, show (((l.getD i 0).toNat : Nat) : Int) = l.getD i 0 by omega] at ht
      have ht' := ht.resolve_left (by omega)
      cases e : maskOk n (l.getD i 0) with
      | false =>
        rw [e] at ht'
        simp (disch := omega) only [impl_MasksValid.l2, impl_MasksValid.j3, dt, df, bt, bf, nt, nf, Bool.and_self, Bool.not_true, Bool.not_false, cond_true, cond_false, Int.toNat_natCast, Int.toNat_zero, Int.toNat_one, Option.bind_some, wr, AV.toB, AV.toI, AV.toS, if_true, rdn hs, allValues_ok hk hn, ht', Bool.false_and]
      | true =>
        rw [e] at ht'
        simp (disch := omega) only [impl_MasksValid.l2, impl_MasksValid.j3, impl_MasksValid.j4, dt, df, bt, bf, nt, nf, Bool.and_self, Bool.not_true, Bool.not_false, cond_true, cond_false, Int.toNat_natCast, Int.toNat_zero, Int.toNat_one, Option.bind_some, wr, AV.toB, AV.toI, AV.toS, if_true, rdn hs, allValues_ok hk hn, ht', Bool.true_and, d1]
theorem implMasksValid_ok {k : Nat} (hk : 2000000 ≤ k) {n : Int} (hb : -1 ≤ n ∧ n ≤ 5) {H : Hp} {s : Sl} {l : List Int} (hs : Reads .i64 H s l) (hl : l.length ≤ 1000) (hr : ∀ m ∈ l, -2 ≤ m ∧ m ≤ 63) :
    callF PP orc k impl_MasksValid.id [.sl 1 s, .int .i64 n] H = some (.bool (masksOk n l), H) := by
  obtain ⟨k, rfl⟩ : ∃ q, k = q + 1 := ⟨k - 1, by omega⟩
  rw [impl_MasksValid.call]
  have hsl := hs.len
  have h1 := sizeOk_ok (show 1 ≤ k by omega) n H
  have h7 := n7 hb
  unfold masksOk
  by_cases hn : 2 ≤ n ∧ n ≤ 4
  · rw [decide_eq_true hn] at h1 ⊢
    by_cases c : (l.length : Int) = n * n
    · have d1 := implMasksValid_l2 (show 1 ≤ k by omega) hn hs hl hr l.length 0 k (by omega) (by omega)
      simp only [Int.natCast_zero, List.drop_zero] at d1
      rw [decide_eq_true c, Bool.and_true, Bool.true_and]
      simp (disch := omega) only [impl_MasksValid.f, impl_MasksValid.j0, impl_MasksValid.j1, dt, df, bt, bf, nt, nf, Bool.and_self, Bool.not_true, Bool.not_false, cond_true, cond_false, Int.toNat_natCast, Int.toNat_zero, Int.toNat_one, Option.bind_some, wr, AV.toB, AV.toI, AV.toS, if_true, h1, hsl, wr (n := n * n), nf c, d1]
    · rw [decide_eq_false c, Bool.and_false, Bool.and_false]
      simp (disch := omega) only [impl_MasksValid.f, impl_MasksValid.j0, impl_MasksValid.j1, dt, df, bt, bf, nt, nf, Bool.and_self, Bool.not_true, Bool.not_false, cond_true, cond_false, Int.toNat_natCast, Int.toNat_zero, Int.toNat_one, Option.bind_some, wr, AV.toB, AV.toI, AV.toS, if_true, h1, hsl, wr (n := n * n), nt c]
  · rw [decide_eq_false hn] at h1 ⊢
    rw [Bool.false_and]
    simp only [impl_MasksValid.f, impl_MasksValid.j0, dt, df, bt, bf, nt, nf, Bool.and_self, Bool.not_true, Bool.not_false, cond_true, cond_false, Int.toNat_natCast, Int.toNat_zero, Int.toNat_one, Option.bind_some, wr, AV.toB, AV.toI, AV.toS, if_true, h1]
theorem Equal_l0 (rec : Rec) (k : Nat) {H : Hp} {s t : Sl} {x y : List Int} (hs : Reads .i64 H s x) (ht : Reads .i64 H t y) (hl : x.length = y.length) (h1 : x.length ≤ 1000) :
    ∀ (j i fuel : Nat), i + j = x.length → j < fuel → slices_Equal_int.l0 rec k fuel s t (x.length : Int) i H = some (.bool (decide (x.drop i = y.drop i)), H) := by
  have hsl := hs.len
  have htl := ht.len
  intro j
  induction j with
  | zero =>
    intro i fuel hi hf
    obtain ⟨fuel, rfl⟩ : ∃ q, fuel = q + 1 := ⟨fuel - 1, by omega⟩
    rw [List.drop_eq_nil_of_le (show x.length ≤ i by omega), List.drop_eq_nil_of_le (show y.length ≤ i by omega)]
    simp (disch := omega) only [slices_Equal_int.l0, dt, df, bt, bf, nt, nf, Bool.and_self, Bool.not_true, Bool.not_false, cond_true, cond_false, Int.toNat_natCast, Int.toNat_zero, Int.toNat_one, Option.bind_some, wr, AV.toB, AV.toI, AV.toS, if_true]
    rfl
  | succ j ih =>
    intro i fuel hi hf
    obtain ⟨fuel, rfl⟩ : ∃ q, fuel = q + 1 := ⟨fuel - 1, by omega⟩
    have hx : i < x.length := by omega
    have hy : i < y.length := by omega
    have ex : x.drop i = x.getD i 0 :: x.drop (i + 1) := by
      rw [List.drop_eq_getElem_cons hx, List.getD_eq_getElem?_getD, List.getElem?_eq_getElem hx]; rfl
    have ey : y.drop i = y.getD i 0 :: y.drop (i + 1) := by
      rw [List.drop_eq_getElem_cons hy, List.getD_eq_getElem?_getD, List.getElem?_eq_getElem hy]; rfl
    rw [ex, ey]
    by_cases c : x.getD i 0 = y.getD i 0
    · have d1 := ih (i + 1) fuel (by omega) (by omega)
      push_cast at d1
      rw [show decide (x.getD i 0 :: x.drop (i + 1) = y.getD i 0 :: y.drop (i + 1)) = decide (x.drop (i + 1) = y.drop (i + 1)) by rw [c]; simp, ← d1]
      simp (disch := omega) only [slices_Equal_int.l0, dt, df, bt, bf, nt, nf, Bool.and_self, Bool.not_true, Bool.not_false, cond_true, cond_false, Int.toNat_natCast, Int.toNat_zero, Int.toNat_one, Option.bind_some, wr, AV.toB, AV.toI, AV.toS, if_true, rdn hs, rdn ht, nf]
    · rw [show decide (x.getD i 0 :: x.drop (i + 1) = y.getD i 0 :: y.drop (i + 1)) = false from decide_eq_false fun h => c (List.cons.inj h).1]
      simp (disch := omega) only [slices_Equal_int.l0, dt, df, bt, bf, nt, nf, Bool.and_self, Bool.not_true, Bool.not_false, cond_true, cond_false, Int.toNat_natCast, Int.toNat_zero, Int.toNat_one, Option.bind_some, wr, AV.toB, AV.toI, AV.toS, if_true, rdn hs, rdn ht, nt]
theorem Equal_ok {k : Nat} (hk : 2000000 ≤ k) {H : Hp} {s t : Sl} {x y : List Int} (hs : Reads .i64 H s x) (ht : Reads .i64 H t y) (h1 : x.length ≤ 1000) (h2 : y.length ≤ 1000) :
    callF PP orc k slices_Equal_int.id [.sl 1 s, .sl 1 t] H = some (.bool (decide (x = y)), H) := by
  obtain ⟨k, rfl⟩ : ∃ q, k = q + 1 := ⟨k - 1, by omega⟩
  rw [slices_Equal_int.call]
  have hsl := hs.len
  have htl := ht.len
  by_cases c : x.length = y.length
  · have d1 := Equal_l0 (callF PP orc k) k hs ht c h1 x.length 0 k (by omega) (by omega)
    simp only [Int.natCast_zero, List.drop_zero] at d1
    rw [← d1, ← hsl]
    simp (disch := omega) only [slices_Equal_int.f, dt, df, bt, bf, nt, nf, Bool.and_self, Bool.not_true, Bool.not_false, cond_true, cond_false, Int.toNat_natCast, Int.toNat_zero, Int.toNat_one, Option.bind_some, wr, AV.toB, AV.toI, AV.toS, if_true]
  · rw [decide_eq_false (fun h => c (congrArg List.length h))]
    simp (disch := omega) only [slices_Equal_int.f, dt, df, bt, bf, nt, nf, Bool.and_self, Bool.not_true, Bool.not_false, cond_true, cond_false, Int.toNat_natCast, Int.toNat_zero, Int.toNat_one, Option.bind_some, wr, AV.toB, AV.toI, AV.toS, if_true]

/-! ### The only value of a mask -/
def ovFrom (m : Int) : Int → Nat → Int
  | _, 0 => 0
  | v, j + 1 => if m = pw v then v else ovFrom m (v + 1) j
def oneOf (m : Int) : Int := if (maskVals m).length = 1 then (maskVals m).headD 0 else 0
theorem tab_ov : ∀ a : Nat, a < 16 → ovFrom ((2 * a : Nat) : Int) 1 4 = oneOf ((2 * a : Nat) : Int) := by decide +kernel
theorem ov_one {n m : Int} (hm : maskOk n m = true) : ovFrom m 1 4 = oneOf m := by
  obtain ⟨h1, h2⟩ := maskOk_iff.1 hm
  have ht := topMask_le n
  obtain ⟨a, ha, ha16⟩ : ∃ a : Nat, m = ((2 * a : Nat) : Int) ∧ a < 16 := ⟨(m / 2).toNat, by rw [Int.tmod_eq_emod_of_nonneg h1.1] at h2; omega, by omega⟩
  rw [ha]; exact tab_ov a ha16
theorem onlyValue_l0 (rec : Rec) (k : Nat) {m : Int} {H : Hp} : ∀ (j fuel : Nat) (v : Int), v + j = 5 → 1 ≤ v → j < fuel → impl_onlyValue.l0 rec k fuel m v H = some (.int .i64 (ovFrom m v j), H) := by
  intro j
  induction j with
  | zero =>
    intro fuel v hv h1 hf
    obtain ⟨fuel, rfl⟩ : ∃ q, fuel = q + 1 := ⟨fuel - 1, by omega⟩
    simp (disch := omega) only [impl_onlyValue.l0, dt, df, bt, bf, nt, nf, Bool.and_self, Bool.not_true, Bool.not_false, cond_true, cond_false, Int.toNat_natCast, Int.toNat_zero, Int.toNat_one, Option.bind_some, wr, AV.toB, AV.toI, AV.toS, if_true, ovFrom]
  | succ j ih =>
    intro fuel v hv h1 hf
    obtain ⟨fuel, rfl⟩ : ∃ q, fuel = q + 1 := ⟨fuel - 1, by omega⟩
    by_cases c : m = pw v
    · rw [ovFrom, if_pos c]
      simp (disch := omega) only [impl_onlyValue.l0, dt, cond_true, iN, m_shl (v := v), bt c]
    · rw [ovFrom, if_neg c]
      have d1 := ih fuel (v + 1) (by omega) (by omega) (by omega)
      simp (disch := omega) only [impl_onlyValue.l0, dt, cond_true, cond_false, iN, m_shl (v := v), bf c, wr (n := v + 1), d1]
theorem onlyValue_ok {k : Nat} (hk : 2000000 ≤ k) {n m : Int} (hm : maskOk n m = true) (H : Hp) : callF PP orc k impl_onlyValue.id [.int .i64 m] H = some (.int .i64 (oneOf m), H) := by
  obtain ⟨k, rfl⟩ : ∃ q, k = q + 1 := ⟨k - 1, by omega⟩
  rw [impl_onlyValue.call, ← ov_one hm]
  exact onlyValue_l0 _ _ 4 k 1 (by omega) (by omega) (by omega)
theorem oneOf_single {n m : Int} (hm : maskOk n m = true) : (oneOf m = 0 ↔ single m = false) ∧ (single m = true → maskVals m = [oneOf m] ∧ 1 ≤ oneOf m) := by
  unfold oneOf single
  by_cases c : (maskVals m).length = 1
  · obtain ⟨x, ex⟩ := List.length_eq_one_iff.1 c
    have hx := maskVals_mem (m := m) (x := x) (by rw [ex]; simp)
    rw [if_pos c, ex]
    simp only [List.headD_cons, List.length_singleton, beq_self_eq_true]
    exact ⟨⟨fun h => by omega, fun h => by cases h⟩, fun _ => ⟨trivial, hx.1⟩⟩
  · rw [if_neg c]
    have : ((maskVals m).length == 1) = false := by simpa using c
    rw [this]
    exact ⟨⟨fun _ => rfl, fun _ => rfl⟩, fun h => by cases h⟩
end Go.Proofs.Ytjojhbdghhmeeaa.Rp
/- The law FnMasksValid: true whatever it is given. No conditions. -/
set_option linter.unusedVariables false
set_option linter.unusedSimpArgs false
namespace Go.Proofs.Ytjojhbdghhmeeaa.Rp
open Go Go.RowKit Go.Proofs.Ytjojhbdghhmeeaa.Ab

theorem DrawMasksValid_ok {k : Nat} (hk : 2000602 ≤ k) {H : Hp} {s : Sl} {l : List Int} (hs : Reads .u8 H s l) (hb : ∀ x ∈ l, 0 ≤ x ∧ x ≤ 255) : DrawnM H (callF PP orc k spec_DrawMasksValid.id [.sl 1 s] H) := by
  obtain ⟨k, rfl⟩ : ∃ q, k = q + 1 := ⟨k - 1, by omega⟩
  rw [spec_DrawMasksValid.call]
  obtain ⟨H1, n, t, c, l', p', H', a1, a2, a3, a3', a4, a5, a6, a7⟩ := open_masks (show 2000601 ≤ k by omega) hs hb (x1 := 2) (by omega)
  have := a4.drawn a3 a6 a7
  simp only [spec_DrawMasksValid.f, dt, df, bt, bf, nt, nf, Bool.and_self, Bool.not_true, Bool.not_false, cond_true, cond_false, Int.toNat_natCast, Int.toNat_zero, Int.toNat_one, Option.bind_some, wr, AV.toB, AV.toI, AV.toS, if_true, AV.toP, a1, a2, AV.isTup, AV.nth, List.length_cons, List.length_nil, List.getD_cons_zero, List.getD_cons_succ, beq_self_eq_true]
  exact this
theorem MasksValid_law {k : Nat} (hk : 2000800 ≤ k) {H : Hp} {s : Sl} {l : List Int} (hs : Reads .u8 H s l) (hb : ∀ x ∈ l, 0 ≤ x ∧ x ≤ 255) :
    ∃ H', callF PP orc k laws_FnMasksValid.id [.sl 1 s] H = some (.bool true, H') := by
  obtain ⟨k, rfl⟩ : ∃ q, k = q + 1 := ⟨k - 1, by omega⟩
  rw [laws_FnMasksValid.call]
  by_cases hbig : (s.len : Int) > 1048576
  · exact ⟨H, by simp only [laws_FnMasksValid.f, dt hbig, cond_true]⟩
  · obtain ⟨n, t, v, H1, a1, a2, a3, a4, a5, a6, a7, a8⟩ := DrawMasksValid_ok (show 2000602 ≤ k by omega) hs hb
    have h1 := implMasksValid_ok (show 2000000 ≤ k by omega) (n := n) ⟨a7, a8⟩ a3 (by omega) a6
    have h2 := specMasksValid_any (show 2000000 ≤ k by omega) (n := n) ⟨a7, a8⟩ a3 (by omega)
    have tl := a3.len
    unfold laws_FnMasksValid.f
    rw [df hbig, cond_false, a1, Option.bind_some]
    simp only [AV.isTup, AV.nth, AV.toI, AV.toS, List.length_cons, List.length_nil, List.getD_cons_zero, List.getD_cons_succ, if_true, beq_self_eq_true, cond_true, Option.bind_some]
    rw [h1, Option.bind_some]
    simp only [AV.toB, Option.bind_some]
    rw [h2, Option.bind_some]
    simp only [AV.toB, Option.bind_some, beq_self_eq_true, Bool.not_true, cond_false]
    cases e : masksOk n v with
    | false =>
      obtain ⟨H4, d1, d2⟩ := alive_ok (show 2000002 ≤ k by omega) H1
      exact ⟨H4, by simp only [laws_FnMasksValid.j0, dt, df, bt, bf, nt, nf, Bool.and_self, Bool.not_true, Bool.not_false, cond_true, cond_false, Int.toNat_natCast, Int.toNat_zero, Int.toNat_one, Option.bind_some, wr, AV.toB, AV.toI, AV.toS, if_true, d1]⟩
    | true =>
      obtain ⟨m4, m16, _⟩ := masks_len e
      have m2 := (masksOk_iff.1 e).2.2
      have q1 : H1 <+: H1 ++ [some (Blk.mk false (v.map (.int .i64)))] := List.prefix_append _ _
      have hnew := own_new 1 H1 (v.map (.int .i64)) v.length (by simp)
      obtain ⟨H2, c1, c2, c3, c4⟩ := own_set1 hnew q1 0 (by omega) 1
      have h3 := implMasksValid_ok (show 2000000 ≤ k by omega) (n := n) ⟨a7, a8⟩ (own_reads c3) (by simp; omega) (fun m hm => by
        rcases List.mem_or_eq_of_mem_set hm with h | h
        · exact a6 m h
        · omega)
      rw [odd_mask (by
        have : (v.set 0 1).getD 0 0 = 1 := by rw [getD_set, if_pos ⟨rfl, by omega⟩]
        have h := mem_getD (l := v.set 0 1) (i := 0) (by simp; omega)
        rw [this] at h; exact h)] at h3
      have h4r := reads_from (pf_reads c2 a3) 1 (by omega)
      have h4 := implMasksValid_ok (show 2000000 ≤ k by omega) (n := n) ⟨a7, a8⟩ h4r (by simp; omega) (fun m hm => a6 m (List.mem_of_mem_drop hm))
      have e4 : masksOk n (v.drop 1) = false := by
        rw [Bool.eq_false_iff]; intro hc
        have := (masksOk_iff.1 hc).2.2
        simp at this; omega
      rw [e4] at h4
      have esl : (Sl.mk t.nil t.blk (t.off + 1 * 1) ((v.length : Int) - 1).toNat) = Sl.mk t.nil t.blk (t.off + 1) (v.length - 1) := by
        congr 1; omega
      rw [← esl] at h4
      have c1' : (H1 ++ [some (Blk.mk false (v.map (AV.int .i64)))]).sto H1.length (0 + 0 * 1) [.int .i64 1] = some H2 := c1
      have hq : ((0 : Int) ≤ 1 ∧ (1 : Int) ≤ (v.length : Int) ∧ (v.length : Int) ≤ (v.length : Int) ∧ True) ∧ 0 < 1 ∧ True := ⟨⟨by omega, by omega, by omega, trivial⟩, by omega, trivial⟩
      refine ⟨H2, ?_⟩
      simp (disch := omega) only [laws_FnMasksValid.j0, laws_FnMasksValid.j1, dt, df, bt, bf, nt, nf, Bool.and_self, Bool.not_true, Bool.not_false, cond_true, cond_false, Int.toNat_natCast, Int.toNat_zero, Int.toNat_one, Option.bind_some, wr, AV.toB, AV.toI, AV.toS, if_true, tl, bf (show (v.length : Int) ≠ 0 by omega), read_ok a3, appl_ok _ _ _ (show v.length ≤ 1000000 by omega), cells_ok, c1', h3, ip hq, h4]
end Go.Proofs.Ytjojhbdghhmeeaa.Rp
