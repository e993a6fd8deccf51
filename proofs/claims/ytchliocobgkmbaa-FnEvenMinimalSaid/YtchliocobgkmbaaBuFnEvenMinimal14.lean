/- Texts for the row of the law FnEvenMinimal, part 14: the plain machine, the program's functions on it, what they come to. No conditions. -/
import Derived.Test.YtchliocobgkmbaaBuFnEvenMinimal13
import Derived.Test.YtchliocobgkmbaaBuFnEvenMinimal8
/- A puzzle that is drawn, in full. No conditions. -/
set_option linter.unusedVariables false
set_option linter.unusedSimpArgs false
namespace Go.Proofs.Ytchliocobgkmbaa.Rp
open Go Go.RowKit Go.Proofs.Ytchliocobgkmbaa.Ab

theorem given_pos {n : Int} {g : List Int} (h : gridOk g n = true) : 4 ≤ g.length ∧ g.length ≤ 16 := by
  obtain ⟨hn, h2, _⟩ := (gridOk_iff g n).1 h
  have : n = 2 ∨ n = 3 ∨ n = 4 := by omega
  rcases this with rfl | rfl | rfl <;> omega
theorem Puz_j4 {k : Nat} (hk : 1000 ≤ k) {b : Nat} {l : List Int} {n x1 y0 : Int} (hx1 : x1 < 1000000) {p p0 : Nat} (hp : p + 70 ≤ p0) (hp0 : p0 ≤ 999990000) {H0 B H : Hp} (hB : Adv b H0 B) (hb0 : b < H0.length) (hadv : Adv b B H) (hrd : RD b H l p) {y1 y2 xs gt s : Sl} {g given : List Int} {rs : List R} (hx : Reads .i64 B xs g) (hxb : xs.blk ≠ b) (hg : fullG g n) (hz : PZ true B H n gt s given rs) (hl : rs.length ≤ 12) :
    PuzDraw b l x1 p0 H0 (spec_l20Puzzle.j4 (callF PP orc k) k b 0 x1 n xs y0 y1 y2 n gt s H) := by
  obtain ⟨hn, _, _⟩ := (gridOk_iff given n).1 hz.gg
  have hBl := hB.le
  have hb : b < B.length := by omega
  obtain ⟨v, H1, a1, a2, a3, a4, a5⟩ := pick_adv (show 1 ≤ k by omega) hrd (by omega) 8
  have hz1 := hz.adv hb a3
  have hgl := (own_reads hz1.og).len
  have h4 := given_pos hz1.gg
  by_cases v0 : v = 0
  · obtain ⟨u, H2, b1, b2, b3, b4, b5⟩ := pick_adv (show 1 ≤ k by omega) a2 (by omega) (gt.len : Int)
    have hu := b5 (by omega)
    obtain ⟨w, H3, c1, c2, c3, c4, c5⟩ := pick_adv (show 1 ≤ k by omega) b2 (by omega) n
    have hw := c5 (by omega)
    have hz3 := (hz1.adv hb b3).adv hb c3
    obtain ⟨H4, d1, d2, d3, d4⟩ := hz3.set hb (((hadv.trans a3).trans b3).trans c3) c2 u.toNat (by omega) (1 + w) (by omega)
    have := Puz_j6 hk hx1 (p0 := p0) (by omega) hp0 hB hb0 d3 d4 (y0 := y0) (y1 := y1) (y2 := y2) hx hxb hg d2 hl
    simp (disch := omega) only [spec_l20Puzzle.j4, dt, df, bt, bf, nt, nf, Bool.and_self, Bool.not_true, Bool.not_false, cond_true, cond_false, Int.toNat_natCast, Int.toNat_zero, Int.toNat_one, Option.bind_some, wr, AV.toB, AV.toI, AV.toS, if_true, a1, v0, b1, c1, d1]
    exact this
  · have := Puz_j6 hk hx1 (p0 := p0) (by omega) hp0 hB hb0 (hadv.trans a3) a2 (y0 := y0) (y1 := y1) (y2 := y2) hx hxb hg hz1 hl
    simp (disch := omega) only [spec_l20Puzzle.j4, dt, df, bt, bf, nt, nf, Bool.and_self, Bool.not_true, Bool.not_false, cond_true, cond_false, Int.toNat_natCast, Int.toNat_zero, Int.toNat_one, Option.bind_some, wr, AV.toB, AV.toI, AV.toS, if_true, a1]
    exact this

theorem Puz_l5 {k : Nat} (hk : 1000 ≤ k) {b : Nat} {l : List Int} {n x1 y0 holes : Int} (hx1 : x1 < 1000000) {p0 : Nat} (hp0 : p0 ≤ 999990000) {H0 B : Hp} (hB : Adv b H0 B) (hb0 : b < H0.length) {y1 y2 xs gt s : Sl} {g : List Int} {rs : List R} (hx : Reads .i64 B xs g) (hxb : xs.blk ≠ b) (hg : fullG g n) (hl : rs.length ≤ 12) :
    ∀ (j i fuel : Nat) (H : Hp) (given : List Int) (p : Nat), i + j = given.length → j < fuel → p + 70 + j ≤ p0 → Adv b B H → RD b H l p → PZ true B H n gt s given rs →
      PuzDraw b l x1 p0 H0 (spec_l20Puzzle.l5 (callF PP orc k) k fuel b 0 x1 n xs holes i y0 y1 y2 n gt s H) := by
  have hBl := hB.le
  have hb : b < B.length := by omega
  intro j
  induction j with
  | zero =>
    intro i fuel H given p hi hf hp hadv hrd hz
    obtain ⟨fuel, rfl⟩ : ∃ q, fuel = q + 1 := ⟨fuel - 1, by omega⟩
    have hgl := (own_reads hz.og).len
    have := Puz_j4 hk hx1 (p0 := p0) (by omega) hp0 hB hb0 hadv hrd (y0 := y0) (y1 := y1) (y2 := y2) hx hxb hg hz hl
    simp (disch := omega) only [spec_l20Puzzle.l5, dt, df, bt, bf, nt, nf, Bool.and_self, Bool.not_true, Bool.not_false, cond_true, cond_false, Int.toNat_natCast, Int.toNat_zero, Int.toNat_one, Option.bind_some, wr, AV.toB, AV.toI, AV.toS, if_true]
    exact this
  | succ j ih =>
    intro i fuel H given p hi hf hp hadv hrd hz
    obtain ⟨fuel, rfl⟩ : ∃ q, fuel = q + 1 := ⟨fuel - 1, by omega⟩
    obtain ⟨hn, _, _⟩ := (gridOk_iff given n).1 hz.gg
    have h4 := given_pos hz.gg
    have hgl := (own_reads hz.og).len
    obtain ⟨v, H1, a1, a2, a3, a4, a5⟩ := pick_adv (show 1 ≤ k by omega) hrd (by omega) 4
    have hz1 := hz.adv hb a3
    by_cases c : v < holes
    · obtain ⟨H4, d1, d2, d3, d4⟩ := hz1.set hb (hadv.trans a3) a2 i (by omega) 0 (by omega)
      have := ih (i + 1) fuel H4 (given.set i 0) _ (by simp; omega) (by omega) (by omega) d3 d4 d2
      push_cast at this
      simp (disch := omega) only [spec_l20Puzzle.l5, spec_l20Puzzle.j7, dt, df, bt, bf, nt, nf, Bool.and_self, Bool.not_true, Bool.not_false, cond_true, cond_false, Int.toNat_natCast, Int.toNat_zero, Int.toNat_one, Option.bind_some, wr, AV.toB, AV.toI, AV.toS, if_true, a1, d1]
      exact this
    · have := ih (i + 1) fuel H1 given _ (by omega) (by omega) (by omega) (hadv.trans a3) a2 hz1
      push_cast at this
      simp (disch := omega) only [spec_l20Puzzle.l5, spec_l20Puzzle.j7, dt, df, bt, bf, nt, nf, Bool.and_self, Bool.not_true, Bool.not_false, cond_true, cond_false, Int.toNat_natCast, Int.toNat_zero, Int.toNat_one, Option.bind_some, wr, AV.toB, AV.toI, AV.toS, if_true, a1]
      exact this

theorem minFrom_grid {n : Int} (vs : List V) (hn : 2 ≤ n ∧ n ≤ 4) : ∀ (j i : Nat) (g : List Int), gridOk g n = true → gridOk (minFrom n vs g i j) n = true
  | 0, _, _, h => h
  | j + 1, i, g, h => by
    rw [minFrom]
    refine minFrom_grid vs hn j (i + 1) _ ?_
    split
    · exact grid_set h i 0 (by omega)
    · exact h
theorem blk_ne {B B' H : Hp} {s t : Sl} {rs : List R} {l : List Int} (h : Own 3 B H s (rs.flatMap R.av)) (h' : Own 1 B' H t (l.map (.int .i64))) (hl : 2 ≤ l.length) : s.blk ≠ t.blk := by
  intro e
  have e1 := h.get
  rw [e, h'.get] at e1
  simp only [Option.some.injEq, Blk.mk.injEq, true_and] at e1
  have e2 := congrArg (fun x => x[1]?) e1
  simp only [List.getElem?_map] at e2
  rw [List.getElem?_eq_getElem (show 1 < l.length by omega)] at e2
  cases rs with
  | nil => simp at e2
  | cons r rs => simp [R.av] at e2

theorem Puz_j3 {k : Nat} (hk : 2000300 ≤ k) {b : Nat} {l : List Int} {n x1 y0 : Int} (hx1 : x1 < 1000000) {p p0 : Nat} (hp : p + 100 ≤ p0) (hp0 : p0 ≤ 999990000) {H0 B H : Hp} (hB : Adv b H0 B) (hb0 : b < H0.length) (hadv : Adv b B H) (hrd : RD b H l p) {y1 y2 xs gt s : Sl} {g given : List Int} {rs : List R} (hx : Reads .i64 B xs g) (hxb : xs.blk ≠ b) (hg : fullG g n) (hz : PZ true B H n gt s given rs) (hl : rs.length ≤ 12) :
    PuzDraw b l x1 p0 H0 (spec_l20Puzzle.j3 (callF PP orc k) k b 0 x1 n xs y0 y1 y2 n gt s H) := by
  obtain ⟨hn, _, _⟩ := (gridOk_iff given n).1 hz.gg
  have hBl := hB.le
  have hb : b < B.length := by omega
  obtain ⟨v, H1, a1, a2, a3, a4, a5⟩ := pick_adv (show 1 ≤ k by omega) hrd (by omega) 3
  have hz1 := hz.adv hb a3
  have adv1 := hadv.trans a3
  have h4 := given_pos hz1.gg
  by_cases v0 : v = 0
  · obtain ⟨H2, b1, b2⟩ := specMakeMinimal_ok hk (hz1.puz (by omega))
    have adv2 : Adv b B H2 := adv1.trans (pf_adv b1)
    have rd2 := a2.pf b1
    rcases b2 with ⟨_, b2⟩ | ⟨_, gt', st, qs, b2, b3, b4, b5, b6⟩
    · have := Puz_j4 (show 1000 ≤ k by omega) hx1 (p0 := p0) (by omega) hp0 hB hb0 adv2 rd2 (y0 := y0) (y1 := y1) (y2 := y2) hx hxb hg (hz1.adv hb (pf_adv b1)) hl
      simp (disch := omega) only [spec_l20Puzzle.j3, dt, df, bt, bf, nt, nf, Bool.and_self, Bool.not_true, Bool.not_false, cond_true, cond_false, Int.toNat_natCast, Int.toNat_zero, Int.toNat_one, Option.bind_some, wr, AV.toB, AV.toI, AV.toS, if_true, a1, v0, b2, AV.isTup, AV.nth, AV.isAgg, AV.cel, List.length_cons, List.length_nil, List.getD_cons_zero, List.getD_cons_succ]
      exact this
    · have hle := adv1.le
      have hql : qs.length = rs.length := by have := congrArg List.length b5; simpa using this
      have hmm : gridOk (minimalV n given (rs.map R.val)) n = true := minFrom_grid _ hn _ _ _ hz1.gg
      have h4' := given_pos hmm
      have hz2 : PZ true B H2 n gt' st (minimalV n given (rs.map R.val)) qs := by
        refine ⟨⟨b3.nn, b3.off, Nat.le_trans hle b3.blk, b3.get, b3.len⟩, .inr ⟨⟨⟨b4.own.nn, b4.own.off, Nat.le_trans hle b4.own.blk, b4.own.get, b4.own.len⟩, b4.rd, b4.ne, b4.lt, fun i hi => Nat.le_trans hle (b4.lo i hi), b4.nn⟩, blk_ne b4.own b3 (by omega)⟩, b6, hmm, fun q hq => ?_⟩
        have hqv : q.val ∈ rs.map R.val := b5 ▸ List.mem_map_of_mem hq
        obtain ⟨r, hr, e⟩ := List.mem_map.1 hqv
        obtain ⟨r1, r2⟩ := hz1.ro r hr
        have e1 : R.ok n q = R.ok n r := by
          show ruleOkV n q.val = ruleOkV n r.val
          rw [e]
        have e2 : q.cells = r.cells := congrArg (·.2.1) e.symm
        exact ⟨fun h => e1 ▸ r1 h, e2 ▸ r2⟩
      have := Puz_j4 (show 1000 ≤ k by omega) hx1 (p0 := p0) (by omega) hp0 hB hb0 adv2 rd2 (y0 := y0) (y1 := y1) (y2 := y2) hx hxb hg hz2 (by omega)
      simp (disch := omega) only [spec_l20Puzzle.j3, dt, df, bt, bf, nt, nf, Bool.and_self, Bool.not_true, Bool.not_false, cond_true, cond_false, Int.toNat_natCast, Int.toNat_zero, Int.toNat_one, Option.bind_some, wr, AV.toB, AV.toI, AV.toS, if_true, a1, v0, b2, AV.isTup, AV.nth, AV.isAgg, AV.cel, List.length_cons, List.length_nil, List.getD_cons_zero, List.getD_cons_succ]
      exact this
  · obtain ⟨w, H2, b1, b2, b3, b4, b5⟩ := pick_adv (show 1 ≤ k by omega) a2 (by omega) 3
    have hw := b5 (by omega)
    have := Puz_l5 (show 1000 ≤ k by omega) (holes := 1 + w) hx1 hp0 hB hb0 (y0 := y0) (y1 := y1) (y2 := y2) hx hxb hg hl given.length 0 k H2 given _ (by omega) (by omega) (by omega) (adv1.trans b3) b2 (hz1.adv hb b3)
    simp (disch := omega) only [spec_l20Puzzle.j3, dt, df, bt, bf, nt, nf, Bool.and_self, Bool.not_true, Bool.not_false, cond_true, cond_false, Int.toNat_natCast, Int.toNat_zero, Int.toNat_one, Option.bind_some, wr, AV.toB, AV.toI, AV.toS, if_true, a1, b1]
    exact this

theorem box_valid : ∀ r ∈ boxRules, ruleOkV 4 r = true ∧ r.2.1.length ≤ 5 := by decide
theorem Puz_j2 {k : Nat} (hk : 2000400 ≤ k) {b : Nat} {l : List Int} {n x1 y0 : Int} (hx1 : x1 < 1000000) {p p0 : Nat} (hp : p + 100 ≤ p0) (hp0 : p0 ≤ 999990000) {H0 B H : Hp} (hB : Adv b H0 B) (hb0 : b < H0.length) (hadv : Adv b B H) (hrd : RD b H l p) {y1 y2 xs gt s : Sl} {g given : List Int} {rs : List R} (hx : Reads .i64 B xs g) (hxb : xs.blk ≠ b) (hg : fullG g n) (hz : PZ true B H n gt s given rs) (hl : rs.length ≤ 8) {c : Bool} (hc : c = true → n = 4) :
    PuzDraw b l x1 p0 H0 (spec_l20Puzzle.j2 (callF PP orc k) k b 0 x1 n xs c y0 y1 y2 n gt s H) := by
  have hBl := hB.le
  have hb : b < B.length := by omega
  cases c with
  | false =>
    have := Puz_j3 (show 2000300 ≤ k by omega) hx1 (p0 := p0) (by omega) hp0 hB hb0 hadv hrd (y0 := y0) (y1 := y1) (y2 := y2) hx hxb hg hz (by omega)
    simp only [spec_l20Puzzle.j2, cond_false]
    exact this
  | true =>
    have hn4 := hc rfl
    subst hn4
    obtain ⟨u, H1, a1, a2, a3⟩ := specBoxRegions_ok (show 100 ≤ k by omega) H
    obtain ⟨t, qs, H2, b1, b2, b3, b4⟩ := specRegionRules_ok (show 2000010 ≤ k by omega) (own_reads a3)
    have p2 : H <+: H2 := a2.trans b2
    have hql : qs.length = 4 := by have := congrArg List.length b4; simp [boxRules] at this; exact this
    have hqo : ∀ r ∈ qs, (true = true → R.ok 4 r = true) ∧ r.cells.length ≤ 5 := fun q hq => by
      have : q.val ∈ boxRules := b4 ▸ List.mem_map_of_mem hq
      obtain ⟨h1, h2⟩ := box_valid _ this
      exact ⟨fun _ => h1, h2⟩
    have hgl : g.length ≤ 16 := by have := hg.1; rw [this]; decide
    have hxH := (hadv.trans (pf_adv p2)).reads hxb hx
    have hz0 : PuzAt H2 4 xs t g qs := ⟨hxH, b3.reads, by omega, by omega, by omega, fun r hr => by have := (hqo r hr).2; omega⟩
    obtain ⟨H3, c1, c2⟩ := specPuzzleSolved_ok (show 2000043 ≤ k by omega) hz0 hxH (by omega)
    have p3 := p2.trans c2
    have adv3 : Adv b B H3 := hadv.trans (pf_adv p3)
    have hz3 := hz.adv hb (pf_adv (b := b) p3)
    cases hs : puzzleSolvedV 4 g (qs.map R.val) g with
    | false =>
      rw [hs] at c1
      have := Puz_j3 (show 2000300 ≤ k by omega) hx1 (p0 := p0) (by omega) hp0 hB hb0 adv3 (hrd.pf p3) (y0 := y0) (y1 := y1) (y2 := y2) hx hxb hg hz3 (by omega)
      simp (disch := omega) only [spec_l20Puzzle.j2, dt, df, bt, bf, nt, nf, Bool.and_self, Bool.not_true, Bool.not_false, cond_true, cond_false, Int.toNat_natCast, Int.toNat_zero, Int.toNat_one, Option.bind_some, wr, AV.toB, AV.toI, AV.toS, if_true, a1, b1, c1, AV.isTup, AV.nth, List.length_cons, List.length_nil, List.getD_cons_zero, List.getD_cons_succ]
      exact this
    | true =>
      rw [hs] at c1
      have hHl := a2.length_le
      have hgt := own_lt' hz.og
      have hb3' := b3.pf c2
      obtain ⟨t', H4, d1, d2, d3, d4⟩ := hz3.apps (by have := adv3.le; omega) hb adv3 (hrd.pf p3) (by omega) qs (by omega) (by omega) (fun i hi => by
        have h1 := b3.lo i hi
        have h2 := hb3'.lt i hi
        refine ⟨hb3'.rd i hi, by have := hadv.le; omega, h2, by omega, fun hnn => ?_, hb3'.nn i hi⟩
        rcases hz.rr with ⟨h1', _, _⟩ | ⟨h1', _⟩
        · rw [h1'] at hnn; cases hnn
        · have := own_lt' h1'.own; omega) hqo
      have hrd3 := read3_ok hb3'.own
      have hsl := own_len3 hb3'.own
      have := Puz_j3 (show 2000300 ≤ k by omega) hx1 (p0 := p0) (by omega) hp0 hB hb0 d3 d4 (y0 := y0) (y1 := y1) (y2 := y2) hx hxb hg d2 (by simp; omega)
      simp (disch := omega) only [spec_l20Puzzle.j2, dt, df, bt, bf, nt, nf, Bool.and_self, Bool.not_true, Bool.not_false, cond_true, cond_false, Int.toNat_natCast, Int.toNat_zero, Int.toNat_one, Option.bind_some, wr, AV.toB, AV.toI, AV.toS, if_true, a1, b1, c1, AV.isTup, AV.nth, List.length_cons, List.length_nil, List.getD_cons_zero, List.getD_cons_succ, hrd3, hsl, d1, cells3_ok]
      exact this

theorem Puz_j1 {k : Nat} (hk : 2000400 ≤ k) {b : Nat} {l : List Int} {n x1 y0 : Int} (hx1 : x1 < 1000000) {p p0 : Nat} (hp : p + 110 ≤ p0) (hp0 : p0 ≤ 999990000) {H0 B H : Hp} (hB : Adv b H0 B) (hb0 : b < H0.length) (hadv : Adv b B H) (hrd : RD b H l p) {y1 y2 xs gt s : Sl} {g given : List Int} {rs : List R} (hx : Reads .i64 B xs g) (hxb : xs.blk ≠ b) (hg : fullG g n) (hz : PZ true B H n gt s given rs) (hl : rs.length ≤ 8) :
    PuzDraw b l x1 p0 H0 (spec_l20Puzzle.j1 (callF PP orc k) k b 0 x1 n xs y0 y1 y2 n gt s H) := by
  have hBl := hB.le
  have hb : b < B.length := by omega
  by_cases c : n = 4
  · obtain ⟨v, H1, a1, a2, a3, a4, a5⟩ := pick_adv (show 1 ≤ k by omega) hrd (by omega) 3
    have := Puz_j2 hk hx1 (p0 := p0) (by omega) hp0 hB hb0 (hadv.trans a3) a2 (y0 := y0) (y1 := y1) (y2 := y2) hx hxb hg (hz.adv hb a3) hl (c := v == 0) (fun _ => c)
    simp only [spec_l20Puzzle.j1, bt c, cond_true, a1, Option.bind_some, AV.toI, if_true]
    exact this
  · have := Puz_j2 hk hx1 (p0 := p0) (by omega) hp0 hB hb0 hadv hrd (y0 := y0) (y1 := y1) (y2 := y2) hx hxb hg hz hl (c := false) (fun h => by cases h)
    simp only [spec_l20Puzzle.j1, bf c, cond_false]
    exact this

theorem Puz_l0 {k : Nat} (hk : 2000400 ≤ k) {b : Nat} {l : List Int} {n x1 y0 : Int} (hx1 : x1 < 1000000) {p0 : Nat} (hp0 : p0 ≤ 999990000) {H0 B : Hp} (hB : Adv b H0 B) (hb0 : b < H0.length) {y1 y2 xs gt : Sl} {g given : List Int} (hx : Reads .i64 B xs g) (hxb : xs.blk ≠ b) (hg : fullG g n) :
    ∀ (j fuel : Nat) (H : Hp) (s : Sl) (rs : List R) (p : Nat), j < fuel → rs.length + j ≤ 8 → p + 110 + 50 * j ≤ p0 → Adv b B H → RD b H l p → PZ true B H n gt s given rs →
      PuzDraw b l x1 p0 H0 (spec_l20Puzzle.l0 (callF PP orc k) k fuel b 0 x1 n xs (j : Int) y0 y1 y2 n gt s H) := by
  have hBl := hB.le
  have hb : b < B.length := by omega
  intro j
  induction j with
  | zero =>
    intro fuel H s rs p hf hl hp hadv hrd hz
    obtain ⟨fuel, rfl⟩ : ∃ q, fuel = q + 1 := ⟨fuel - 1, by omega⟩
    have := Puz_j1 hk hx1 (p0 := p0) (by omega) hp0 hB hb0 hadv hrd (y0 := y0) (y1 := y1) (y2 := y2) hx hxb hg hz (by omega)
    simp (disch := omega) only [spec_l20Puzzle.l0, dt, df, bt, bf, nt, nf, Bool.and_self, Bool.not_true, Bool.not_false, cond_true, cond_false, Int.toNat_natCast, Int.toNat_zero, Int.toNat_one, Option.bind_some, wr, AV.toB, AV.toI, AV.toS, if_true]
    exact this
  | succ j ih =>
    intro fuel H s rs p hf hl hp hadv hrd hz
    obtain ⟨fuel, rfl⟩ : ∃ q, fuel = q + 1 := ⟨fuel - 1, by omega⟩
    obtain ⟨hn, _, _⟩ := (gridOk_iff given n).1 hz.gg
    obtain ⟨kind, cs, value, cells, p', H3, c1, c2, c3, c4, c5, c6, c7, c8, c8n, c9, c10⟩ := l20Rule_ok (show 200 ≤ k by omega) hn (x3 := 0) (by omega) hrd (by omega) (hadv.reads hxb hx) hxb hg
    have hz3 := hz.adv hb c4
    have adv3 := hadv.trans c4
    have hgl2 := own_lt' hz.og
    obtain ⟨t', H4, d1, d2, d3, d4⟩ := hz3.apps (by have := adv3.le; omega) hb adv3 c2 (by omega) [R.mk kind cs cells value] (by simp) (by simp) (fun i hi => by
        have : i = 0 := by simp at hi; omega
        subst this
        refine ⟨c5, by have := hadv.le; simp only [List.getElem_cons_zero]; omega, by simp only [List.getElem_cons_zero]; omega, by simp only [List.getElem_cons_zero]; omega, fun hnn => ?_, c8n⟩
        rcases hz.rr with ⟨h1, _, _⟩ | ⟨h1, _⟩
        · rw [h1] at hnn; cases hnn
        · have := own_lt' h1.own; simp only [List.getElem_cons_zero]; omega) (fun r hr => ⟨fun _ => by simp at hr; subst hr; exact c10 (by omega), by simp at hr; subst hr; exact c9⟩)
    have := ih fuel H4 t' (rs ++ [R.mk kind cs cells value]) p' (by omega) (by simp; omega) (by omega) d3 d4 d2
    have d1' : H3.app 3 s 1 [.int .i64 kind, .sl 1 cs, .int .i64 value] = some (t', H4) := d1
    have hj : ((j + 1 : Nat) : Int) - 1 = (j : Int) := by omega
    simp (disch := omega) only [spec_l20Puzzle.l0, dt, cond_true, Option.bind_some, c1, AV.toI, AV.toS, if_true, AV.isAgg, AV.cel, List.length_cons, List.length_nil, List.getD_cons_zero, List.getD_cons_succ, d1', wr, hj]
    exact this

theorem l20Puzzle_ok {k : Nat} (hk : 2000500 ≤ k) {b : Nat} {l : List Int} {x1 : Int} (hx1 : x1 < 1000000) {p : Nat} {H : Hp} (hrd : RD b H l p) (hp : p ≤ 900000000) :
    PuzDraw b l x1 (p + 500) H (callF PP orc k spec_l20Puzzle.id [.ptr b 0, .int .i64 x1] H) := by
  obtain ⟨k, rfl⟩ : ∃ q, k = q + 1 := ⟨k - 1, by omega⟩
  rw [spec_l20Puzzle.call]
  obtain ⟨n, p1, H1, a1, a2, a3, a4, a5, a6, a7⟩ := l20Size_ok (show 3 ≤ k by omega) hrd (by omega) (n := 0) (by omega)
  have hn := a7 (by omega)
  obtain ⟨t, g, p2, H2, b1, b2, b3, b4, b5, b6⟩ := l20Solved_ok (show 2000101 ≤ k by omega) a2 (by omega) hn
  have hgl : g.length ≤ 16 := by
    have := b6.1
    have : n = 2 ∨ n = 3 ∨ n = 4 := by omega
    rcases this with rfl | rfl | rfl <;> omega
  have hg : gridOk g n = true := by
    refine (gridOk_iff g n).2 ⟨hn, ?_, fun v hv => by have := b6.2 v hv; omega⟩
    have := b6.1
    have : n = 2 ∨ n = 3 ∨ n = 4 := by omega
    rcases this with rfl | rfl | rfl <;> omega
  have hb0 := hrd.lt
  have adv2 : Adv b H H2 := a4.trans b4
  have q1 : H2 <+: H2 ++ [some (Blk.mk false (g.map (.int .i64)))] := List.prefix_append _ _
  have hnew := own_new 1 H2 (g.map (.int .i64)) g.length (by simp)
  obtain ⟨v, H3, c1, c2, c3, c4, c5⟩ := pick_adv (show 1 ≤ k by omega) (b2.pf q1) (by omega) 5
  have hv := c5 (by omega)
  have hz : PZ true H2 (H2 ++ [some (Blk.mk false (g.map (.int .i64)))]) n (Sl.mk false H2.length 0 g.length) Sl.none g [] := ⟨hnew, .inl ⟨rfl, rfl, rfl⟩, fun i hi => absurd hi (Nat.not_lt_zero _), hg, fun r hr => by cases hr⟩
  have hb2 : b < H2.length := by have := adv2.le; omega
  have htb : t.blk ≠ b := by have := b5.blk; have := a4.le; omega
  have := Puz_l0 (show 2000400 ≤ k by omega) hx1 (p0 := p + 500) (by omega) adv2 hb0 (l := l) (y0 := 0) (y1 := Sl.none) (y2 := Sl.none) (given := g) (own_reads b5) htb b6 v.toNat k H3 Sl.none [] _ (by omega) (by simp; omega) (by omega) ((pf_adv q1).trans c3) c2 (hz.adv hb2 c3)
  rw [show ((v.toNat : Nat) : Int) = v by omega] at this
  have tl := (own_reads b5).len
  simp (disch := omega) only [spec_l20Puzzle.f, Option.bind_some, a1, b1, AV.toI, AV.toS, if_true, read_ok (own_reads b5), tl, appl_ok, cells_ok, Bool.and_self, cond_true, c1]
  exact this
end Go.Proofs.Ytchliocobgkmbaa.Rp
/- What all laws of puzzles share: the code's bytes, a list of rules read whole, the closing test. No conditions. -/
set_option linter.unusedVariables false
set_option linter.unusedSimpArgs false
namespace Go.Proofs.Ytchliocobgkmbaa.Rp
open Go Go.RowKit Go.Proofs.Ytchliocobgkmbaa.Ab

theorem byte_wf {l : List Int} (h : ∀ n ∈ l, (Lit.int .u8 n).wf = true) : ∀ x ∈ l, 0 ≤ x ∧ x ≤ 255 := fun x hx => by
  have := h x hx
  simp only [Lit.wf, IntKind.min, IntKind.max, IntKind.signed, IntKind.bits, Bool.and_eq_true, decide_eq_true_eq, if_true, Bool.false_eq_true, if_false] at this
  omega
theorem alive_ok {k : Nat} (hk : 2000002 ≤ k) (H : Hp) : ∃ H', callF PP orc k laws_alive.id [] H = some (.bool true, H') ∧ H <+: H' := by
  obtain ⟨k, rfl⟩ : ∃ q, k = q + 1 := ⟨k - 1, by omega⟩
  rw [laws_alive.call]
  have hnew := own_new 1 H (([1, 0, 0, 2] : List Int).map (.int .i64)) 4 rfl
  have h1 := implGridFilled_ok (show 2000001 ≤ k by omega) (own_reads hnew) (by simp) 2
  rw [ip (show gridOk [1, 0, 0, 2] 2 = true by decide), show filled [1, 0, 0, 2] = 2 by decide] at h1
  refine ⟨H ++ [some (Blk.mk false (([1, 0, 0, 2] : List Int).map (.int .i64)))], ?_, (List.prefix_append _ _)⟩
  simp only [List.map_cons, List.map_nil] at h1 ⊢
  simp only [laws_alive.f, dt, df, bt, bf, nt, nf, Bool.and_self, Bool.not_true, Bool.not_false, cond_true, cond_false, Int.toNat_natCast, Int.toNat_zero, Int.toNat_one, Option.bind_some, wr, AV.toB, AV.toI, AV.toS, if_true, h1]
  rfl
theorem reads3_ok {H : Hp} {s : Sl} {rs : List R} (h : ReadsR H s rs) : H.read 3 s = some (rs.flatMap R.av) := by
  unfold Hp.read
  by_cases h0 : s.len = 0
  · rw [if_pos h0]
    have : rs = [] := List.length_eq_zero_iff.1 (by rw [← h.len]; exact h0)
    subst this; rfl
  · rw [if_neg h0]
    have hl := h.len
    have hlast := h.c2 (rs.length - 1) (by omega)
    unfold Hp.cell at hlast
    cases hx : H[s.blk]? with
    | none => rw [hx] at hlast; simp at hlast
    | some x =>
      cases x with
      | none => rw [hx] at hlast; simp at hlast
      | some x =>
        rw [hx] at hlast
        simp only at hlast
        have hb := (List.getElem?_eq_some_iff.1 hlast).1
        simp only
        rw [if_pos (by omega)]
        congr 1
        apply List.ext_getElem?
        intro i
        have cel : ∀ o v, H.cell s.blk o = some v → x.cells[o]? = some v := fun o v hv => by
          unfold Hp.cell at hv
          rw [hx] at hv
          exact hv
        by_cases hi : i < rs.length * 3
        · have hq : i / 3 < rs.length := by omega
          rw [List.getElem?_take, if_pos (by omega), List.getElem?_drop]
          obtain ⟨f0, f1, f2⟩ := flat0 rs (i / 3) hq
          have hm : i % 3 = 0 ∨ i % 3 = 1 ∨ i % 3 = 2 := by omega
          rcases hm with hm | hm | hm
          · have e : i = i / 3 * 3 := by omega
            rw [show s.off + i = s.off + i / 3 * 3 by omega, show (rs.flatMap R.av)[i]? = (rs.flatMap R.av)[i / 3 * 3]? by rw [← e], f0]
            exact cel _ _ (h.c0 _ hq)
          · have e : i = i / 3 * 3 + 1 := by omega
            rw [show s.off + i = s.off + i / 3 * 3 + 1 by omega, show (rs.flatMap R.av)[i]? = (rs.flatMap R.av)[i / 3 * 3 + 1]? by rw [← e], f1]
            exact cel _ _ (h.c1 _ hq)
          · have e : i = i / 3 * 3 + 2 := by omega
            rw [show s.off + i = s.off + i / 3 * 3 + 2 by omega, show (rs.flatMap R.av)[i]? = (rs.flatMap R.av)[i / 3 * 3 + 2]? by rw [← e], f2]
            exact cel _ _ (h.c2 _ hq)
        · rw [List.getElem?_eq_none (by simp; omega), List.getElem?_eq_none (by rw [flat_length]; omega)]
/-- A copy of a list of rules. -/
theorem copy3_ok {H : Hp} {s : Sl} {rs : List R} (h : ReadsR H s rs) (hl : rs.length ≤ 1000) :
    H.appl 3 [] 0 s.len (rs.flatMap R.av) = some (Sl.mk false H.length 0 rs.length, H ++ [some (Blk.mk false (rs.flatMap R.av))]) ∧ Own 3 H (H ++ [some (Blk.mk false (rs.flatMap R.av))]) (Sl.mk false H.length 0 rs.length) (rs.flatMap R.av) := by
  refine ⟨?_, own_new 3 H _ _ (flat_length rs).symm⟩
  rw [h.len]; exact appl3_ok H _ _ (by omega) (flat_length rs)

/-- A puzzle that is drawn out of a code. -/
def DrawnP (H : Hp) (r : An) : Prop := ∃ n gs s given rs H', r = some (.agg [.int .i64 n, .sl 1 gs, .sl 3 s], H') ∧ H <+: H' ∧ PuzB H H' n gs s given rs
theorem PuzB.base {H0 H1 H : Hp} {n : Int} {gs s : Sl} {given : List Int} {rs : List R} (h : PuzB H1 H n gs s given rs) (g : H0.length ≤ H1.length) : PuzB H0 H n gs s given rs :=
  ⟨h.at', h.g16, h.gv, h.r25, h.c5, fun e => Nat.le_trans g (h.gb e), fun e => Nat.le_trans g (h.rb e), fun i hi e => Nat.le_trans g (h.cb i hi e), h.gn, h.cn⟩
/-- The opened code, and a puzzle out of it. -/
theorem open_puzzle {k : Nat} (hk : 2000500 ≤ k) {H : Hp} {s : Sl} {l : List Int} (hs : Reads .u8 H s l) (hb : ∀ x ∈ l, 0 ≤ x ∧ x ≤ 255) {x1 : Int} (hx1 : x1 < 1000000) :
    ∃ H1 n gs ss given rs l' p' H', callF PP orc k spec_l20Open.id [.sl 1 s] H = some (.ptr H.length 0, H1) ∧ callF PP orc k spec_l20Puzzle.id [.ptr H.length 0, .int .i64 x1] H1 = some (.agg [.int .i64 n, .sl 1 gs, .sl 3 ss], H') ∧ H <+: H' ∧ RD H.length H' l' p' ∧ p' ≤ 500 ∧ H.length < H1.length ∧ H1.length ≤ H'.length ∧ PuzB H1 H' n gs ss given rs ∧ (x1 ≤ 0 → puzzleV n given (rs.map R.val) = true) := by
  obtain ⟨l', H1, a1, a2, a3, a4⟩ := l20Open_ok (show 1 ≤ k by omega) hs hb
  obtain ⟨n, gs, ss, given, rs, p', H', b1, b2, b3, b4, b5, b6⟩ := l20Puzzle_ok hk hx1 a3 (by omega)
  exact ⟨H1, n, gs, ss, given, rs, l', p', H', a1, b1, b4.but.pf (Nat.le_refl _) a2 b4.le, b2, by omega, by omega, b4.le, b5, b6⟩
end Go.Proofs.Ytchliocobgkmbaa.Rp
/- The draw of the laws on even puzzles; filled cells. No conditions. -/
set_option linter.unusedVariables false
set_option linter.unusedSimpArgs false
namespace Go.Proofs.Ytchliocobgkmbaa.Rp
open Go Go.RowKit Go.Proofs.Ytchliocobgkmbaa.Ab

theorem filled_mono : ∀ (a b : List Int), a.length = b.length → (∀ i, i < a.length → 0 < a.getD i 0 → 0 < b.getD i 0) → filled a ≤ filled b
  | [], [], _, _ => Nat.le_refl _
  | [], _ :: _, h, _ => by simp at h
  | _ :: _, [], h, _ => by simp at h
  | x :: a, y :: b, h, hi => by
    have ih := filled_mono a b (by simpa using h) fun i h1 h2 => hi (i + 1) (by simp; omega) h2
    have h0 := hi 0 (by simp)
    simp only [List.getD_cons_zero] at h0
    unfold filled at ih ⊢
    rw [List.countP_cons, List.countP_cons]
    by_cases c : 0 < x
    · rw [if_pos (by simpa using c), if_pos (by simpa using h0 c)]; omega
    · rw [if_neg (by simpa using c)]; split <;> omega
theorem filled_le {a b : List Int} (h : Le a b) : filled a ≤ filled b := filled_mono a b h.1 fun i _ hp => by
  rcases h.2 i with e | e <;> omega
theorem PuzB.adv' {b : Nat} {H0 B H : Hp} {n : Int} {gs s : Sl} {given : List Int} {rs : List R} (h : PuzB H0 B n gs s given rs) (hb : b < H0.length) (g : Adv b B H) : PuzB H0 H n gs s given rs := by
  have rd : ∀ {t : Sl} {l : List Int}, (l ≠ [] → H0.length ≤ t.blk) → Reads .i64 B t l → Reads .i64 H t l := fun {t l} h1 h2 => by
    by_cases e : l = []
    · subst e; exact reads_nil h2.len
    · exact g.reads (by have := h1 e; omega) h2
  refine ⟨⟨rd h.gb h.at'.rg, ?_, h.at'.n4, h.at'.gl, h.at'.rl, h.at'.rc⟩, h.g16, h.gv, h.r25, h.c5, h.gb, h.rb, h.cb, h.gn, h.cn⟩
  have hr := h.at'.rr
  have cel : ∀ {o : Nat} {v : AV}, rs ≠ [] → B.cell s.blk o = some v → H.cell s.blk o = some v := fun e hv => g.but.cell (by have := h.rb e; omega) hv
  refine ⟨hr.len, fun i hi => cel ?_ (hr.c0 i hi), fun i hi => cel ?_ (hr.c1 i hi), fun i hi => cel ?_ (hr.c2 i hi), fun i hi => rd (h.cb i hi) (hr.cs i hi)⟩
  all_goals
    intro e; subst e; exact absurd hi (Nat.not_lt_zero _)
theorem DrawMakeEven_ok {k : Nat} (hk : 2000501 ≤ k) {H : Hp} {s : Sl} {l : List Int} (hs : Reads .u8 H s l) (hb : ∀ x ∈ l, 0 ≤ x ∧ x ≤ 255) : DrawnP H (callF PP orc k spec_DrawMakeEven.id [.sl 1 s] H) := by
  obtain ⟨k, rfl⟩ : ∃ q, k = q + 1 := ⟨k - 1, by omega⟩
  rw [spec_DrawMakeEven.call]
  obtain ⟨H1, n, gs, ss, given, rs, l', p', H', a1, a2, a3, a4, a5, a6, a7, a8, a9⟩ := open_puzzle (show 2000500 ≤ k by omega) hs hb (x1 := 12) (by omega)
  obtain ⟨t, H3, c1, c2⟩ := specSolveFirst_ok (show 2000201 ≤ k by omega) a8.at'
  have z3 := a8.adv' a6 (pf_adv c1)
  rcases c2 with ⟨_, c2, _⟩ | ⟨x, c2, c3, c4⟩
  · refine ⟨n, gs, ss, given, rs, H3, ?_, a3.trans c1, z3.base (by omega)⟩
    simp only [spec_DrawMakeEven.f, spec_DrawMakeEven.j0, spec_DrawMakeEven.j1, dt, df, bt, bf, nt, nf, Bool.and_self, Bool.not_true, Bool.not_false, cond_true, cond_false, Int.toNat_natCast, Int.toNat_zero, Int.toNat_one, Option.bind_some, wr, AV.toB, AV.toI, AV.toS, if_true, AV.toP, a1, a2, AV.isAgg, AV.isTup, AV.nth, AV.cel, List.length_cons, List.length_nil, List.getD_cons_zero, List.getD_cons_succ, c2]
    rfl
  · obtain ⟨v, H4, d1, d2, d3, d4, d5⟩ := pick_adv (show 1 ≤ k by omega) (a4.pf c1) (by omega) 2
    obtain ⟨x1', x2', _⟩ := first_grid c2
    have z4 := z3.adv' a6 d3
    have p4 : H <+: H4 := d3.but.pf (Nat.le_refl _) (a3.trans c1) d3.le
    have hle := a3.length_le
    by_cases v0 : v = 0
    · refine ⟨n, t, ss, x, rs, H4, ?_, p4, ⟨⟨d3.reads (by have := c4.blk; omega) (own_reads c4), z4.at'.rr, z4.at'.n4, by have := gridOk_len x1'; omega, z4.at'.rl, z4.at'.rc⟩, gridOk_len x1', ((gridOk_iff x n).1 x1').2.2, z4.r25, z4.c5, fun _ => by have := c4.blk; omega, fun e => by have := z4.rb e; omega, fun i hi e => by have := z4.cb i hi e; omega, c4.nn, z4.cn⟩⟩
      simp (disch := omega) only [spec_DrawMakeEven.f, spec_DrawMakeEven.j0, spec_DrawMakeEven.j1, dt, df, bt, bf, nt, nf, Bool.and_self, Bool.not_true, Bool.not_false, cond_true, cond_false, Int.toNat_natCast, Int.toNat_zero, Int.toNat_one, Option.bind_some, wr, AV.toB, AV.toI, AV.toS, if_true, AV.toP, a1, a2, AV.isAgg, AV.isTup, AV.nth, AV.cel, List.length_cons, List.length_nil, List.getD_cons_zero, List.getD_cons_succ, c3, d1]
      rfl
    · refine ⟨n, gs, ss, given, rs, H4, ?_, p4, z4.base (by omega)⟩
      simp (disch := omega) only [spec_DrawMakeEven.f, spec_DrawMakeEven.j0, spec_DrawMakeEven.j1, dt, df, bt, bf, nt, nf, Bool.and_self, Bool.not_true, Bool.not_false, cond_true, cond_false, Int.toNat_natCast, Int.toNat_zero, Int.toNat_one, Option.bind_some, wr, AV.toB, AV.toI, AV.toS, if_true, AV.toP, a1, a2, AV.isAgg, AV.isTup, AV.nth, AV.cel, List.length_cons, List.length_nil, List.getD_cons_zero, List.getD_cons_succ, c3, d1]
      rfl
end Go.Proofs.Ytchliocobgkmbaa.Rp
/- The law FnEvenMinimal: true whatever it is given. No conditions. -/
set_option linter.unusedVariables false
set_option linter.unusedSimpArgs false
namespace Go.Proofs.Ytchliocobgkmbaa.Rp
open Go Go.RowKit Go.Proofs.Ytchliocobgkmbaa.Ab

theorem PuzB.cnm {H0 H : Hp} {n : Int} {gs s : Sl} {given : List Int} {rs : List R} (h : PuzB H0 H n gs s given rs) : ∀ r ∈ rs, r.sl.nil = false ∨ r.cells = [] := fun r hr => by
  obtain ⟨i, hi, e⟩ := List.mem_iff_getElem.1 hr
  rw [← e]; exact h.cn i hi
theorem minimal_spec' {n : Int} {given : List Int} {vs : List V} (h : minimalOk n given vs = true) : puzzleV n given vs = true ∧ puzzleV n (minimalV n given vs) vs = true ∧ Le (minimalV n given vs) given ∧ oneV n (minimalV n given vs) vs = true ∧ (∀ x, x < given.length → redundantV n (minimalV n given vs) vs x = false) ∧ ∃ x, allSols n (minimalV n given vs) vs = [x] ∧ allSols n given vs = [x] := by
  unfold minimalOk at h
  simp only [Bool.and_eq_true] at h
  obtain ⟨h1, h2⟩ := h
  obtain ⟨a, b, c⟩ := minFrom_spec given.length 0 given h1 h2 (by omega) (fun x hx => by omega)
  have hp := puzzle_le a h1
  refine ⟨h1, hp, a, b, c, ?_⟩
  have b' := b
  unfold oneV at b' h2
  rw [decide_eq_true_eq] at b' h2
  exact same_sol a hp h1 b' h2
theorem EvenMinimal_law {k : Nat} (hk : 2000800 ≤ k) {H : Hp} {s : Sl} {l : List Int} (hs : Reads .u8 H s l) (hb : ∀ x ∈ l, 0 ≤ x ∧ x ≤ 255) :
    ∃ H', callF PP orc k laws_FnEvenMinimal.id [.sl 1 s] H = some (.bool true, H') := by
  obtain ⟨k, rfl⟩ : ∃ q, k = q + 1 := ⟨k - 1, by omega⟩
  rw [laws_FnEvenMinimal.call]
  by_cases hbig : (s.len : Int) > 1048576
  · exact ⟨H, by simp only [laws_FnEvenMinimal.f, dt hbig, cond_true]⟩
  · obtain ⟨n, gs, ss, given, rs, H1, a1, a2, a3⟩ := DrawMakeEven_ok (show 2000501 ≤ k by omega) hs hb
    have hz := a3.at'
    have hgl2 := hz.gl
    obtain ⟨H2, b1, b2⟩ := implMakeEven_ok (show 2000530 ≤ k by omega) hz a3.gn a3.cnm
    obtain ⟨H3, c1, c2⟩ := specMakeEven_ok (show 2000300 ≤ k by omega) (hz.pf b1)
    rcases b2 with ⟨e1, b2⟩ | ⟨e1, gt, st, qs, b2, b3, b4, b5, b6⟩
    · rcases c2 with ⟨_, c2⟩ | ⟨e2, _⟩
      · obtain ⟨H4, d1, d2⟩ := alive_ok (show 2000002 ≤ k by omega) H3
        have sm := samePuzzle_ok (show 2000001 ≤ k by omega) (H := H3) (n := 0) (a1 := Sl.none) (b1 := Sl.none) (g := []) (reads_nil rfl) (reads_nil rfl) (by simp) readsR_nil readsR_nil rfl (by simp) (fun r hr => by cases hr)
        refine ⟨H4, ?_⟩
        unfold laws_FnEvenMinimal.f
        rw [df hbig, cond_false, a1, Option.bind_some]
        simp only [AV.isTup, AV.nth, AV.isAgg, AV.cel, AV.toI, AV.toS, AV.toB, List.length_cons, List.length_nil, List.getD_cons_zero, List.getD_cons_succ, if_true, decide_true, beq_self_eq_true, cond_true, cond_false, Bool.not_true, Bool.not_false, Option.bind_some]
        rw [b2, Option.bind_some]
        simp only [AV.isTup, AV.nth, AV.isAgg, AV.cel, AV.toI, AV.toS, AV.toB, List.length_cons, List.length_nil, List.getD_cons_zero, List.getD_cons_succ, if_true, decide_true, beq_self_eq_true, cond_true, cond_false, Bool.not_true, Bool.not_false, Option.bind_some]
        rw [c2, Option.bind_some]
        simp only [AV.isTup, AV.nth, AV.isAgg, AV.cel, AV.toI, AV.toS, AV.toB, List.length_cons, List.length_nil, List.getD_cons_zero, List.getD_cons_succ, if_true, decide_true, beq_self_eq_true, cond_true, cond_false, Bool.not_true, Bool.not_false, Option.bind_some]
        rw [sm, Option.bind_some]
        simp only [AV.isTup, AV.nth, AV.isAgg, AV.cel, AV.toI, AV.toS, AV.toB, List.length_cons, List.length_nil, List.getD_cons_zero, List.getD_cons_succ, if_true, decide_true, beq_self_eq_true, cond_true, cond_false, Bool.not_true, Bool.not_false, Option.bind_some]
        unfold laws_FnEvenMinimal.j0 laws_FnEvenMinimal.j1
        simp only [cond_true, cond_false, Bool.not_false]
        rw [d1, Option.bind_some]
        rfl
      · rw [e1] at e2; cases e2
    · rcases c2 with ⟨e2, _⟩ | ⟨_, gu, su, ps, c2, c3, c4, c5, c6⟩
      · rw [e1] at e2; cases e2
      · obtain ⟨m1, m2, m3, m4, m5, x, m6, m7⟩ := even_spec e1
        have hq3 := b3.pf c1
        have hz3 := hz.pf (b1.trans c1)
        have sm := samePuzzle_ok (show 2000001 ≤ k by omega) (n := n) hq3.rg (own_reads c3) hq3.gl hq3.rr c4.reads (by rw [c5, b4]) hq3.rl hq3.rc
        have hok : minimalOk n (evenV n given (rs.map R.val)) (qs.map R.val) = true := by
          rw [b4]; unfold minimalOk; rw [m2, m4]; rfl
        obtain ⟨q1, q2, q3, q4, q5, y, q6, q7⟩ := minimal_spec' hok
        obtain ⟨H4, d1, d2⟩ := implMakeMinimal_ok (show 2000530 ≤ k by omega) hq3 b5 b6
        rcases d2 with ⟨e2, _⟩ | ⟨_, g4, s4, ps4, d2, d3, d4, d5, d6⟩
        · rw [hok] at e2; cases e2
        have ey : y = x := by
          rw [b4] at q7
          rw [m6] at q7
          simpa using q7.symm
        subst ey
        have f1 : firstV n given (rs.map R.val) = some y := by unfold firstV; rw [m7]; rfl
        have f2 : firstV n (minimalV n (evenV n given (rs.map R.val)) (qs.map R.val)) (ps4.map R.val) = some y := by unfold firstV; rw [d4, q6]; rfl
        obtain ⟨t1, H5, y1, y2⟩ := implSolveFirst_ok (show 2000510 ≤ k by omega) (hz3.pf d1) a3.gn
        obtain ⟨t2, H6, z1, z2⟩ := implSolveFirst_ok (show 2000510 ≤ k by omega) (d3.pf y1) d5
        rcases y2 with ⟨e, _⟩ | ⟨x', e, y2, y3⟩
        · rw [f1] at e; cases e
        rw [f1] at e; cases e
        rcases z2 with ⟨e, _⟩ | ⟨x', e, z2, z3⟩
        · rw [f2] at e; cases e
        rw [f2] at e; cases e
        have hx16 : y.length ≤ 16 := gridOk_len ((mem_allSols m1 y).1 (by rw [m7]; simp)).1
        have hsame := same_ok (show 2000000 ≤ k by omega) (pf_reads z1 y3) z3 (by omega)
        have hr6 := (d3.pf (y1.trans z1)).rg
        have hq6 := (hq3.pf (d1.trans (y1.trans z1))).rg
        have l1 := q3.1
        have l2 := m3.1
        have gf1 := implGridFilled_ok (show 2000001 ≤ k by omega) hr6 (by omega) n
        have gf2 := implGridFilled_ok (show 2000001 ≤ k by omega) hq6 (by omega) n
        rw [ip (puzzleV_grid q2).1] at gf1
        rw [ip (puzzleV_grid m2).1] at gf2
        have fl := filled_le q3
        refine ⟨H6, ?_⟩
        unfold laws_FnEvenMinimal.f
        rw [df hbig, cond_false, a1, Option.bind_some]
        simp only [AV.isTup, AV.nth, AV.isAgg, AV.cel, AV.toI, AV.toS, AV.toB, List.length_cons, List.length_nil, List.getD_cons_zero, List.getD_cons_succ, if_true, decide_true, beq_self_eq_true, cond_true, cond_false, Bool.not_true, Bool.not_false, Option.bind_some]
        rw [b2, Option.bind_some]
        simp only [AV.isTup, AV.nth, AV.isAgg, AV.cel, AV.toI, AV.toS, AV.toB, List.length_cons, List.length_nil, List.getD_cons_zero, List.getD_cons_succ, if_true, decide_true, beq_self_eq_true, cond_true, cond_false, Bool.not_true, Bool.not_false, Option.bind_some]
        rw [c2, Option.bind_some]
        simp only [AV.isTup, AV.nth, AV.isAgg, AV.cel, AV.toI, AV.toS, AV.toB, List.length_cons, List.length_nil, List.getD_cons_zero, List.getD_cons_succ, if_true, decide_true, beq_self_eq_true, cond_true, cond_false, Bool.not_true, Bool.not_false, Option.bind_some]
        rw [sm, Option.bind_some]
        simp only [AV.isTup, AV.nth, AV.isAgg, AV.cel, AV.toI, AV.toS, AV.toB, List.length_cons, List.length_nil, List.getD_cons_zero, List.getD_cons_succ, if_true, decide_true, beq_self_eq_true, cond_true, cond_false, Bool.not_true, Bool.not_false, Option.bind_some]
        unfold laws_FnEvenMinimal.j0 laws_FnEvenMinimal.j1
        simp only [cond_true, cond_false, Bool.not_true]
        rw [d2, Option.bind_some]
        simp only [AV.isTup, AV.nth, AV.isAgg, AV.cel, AV.toI, AV.toS, AV.toB, List.length_cons, List.length_nil, List.getD_cons_zero, List.getD_cons_succ, if_true, decide_true, beq_self_eq_true, cond_true, cond_false, Bool.not_true, Bool.not_false, Option.bind_some]
        rw [y2, Option.bind_some]
        simp only [AV.isTup, AV.nth, AV.isAgg, AV.cel, AV.toI, AV.toS, AV.toB, List.length_cons, List.length_nil, List.getD_cons_zero, List.getD_cons_succ, if_true, decide_true, beq_self_eq_true, cond_true, cond_false, Bool.not_true, Bool.not_false, Option.bind_some]
        rw [z2, Option.bind_some]
        simp only [AV.isTup, AV.nth, AV.isAgg, AV.cel, AV.toI, AV.toS, AV.toB, List.length_cons, List.length_nil, List.getD_cons_zero, List.getD_cons_succ, if_true, decide_true, beq_self_eq_true, cond_true, cond_false, Bool.not_true, Bool.not_false, Option.bind_some]
        rw [hsame, Option.bind_some]
        simp only [AV.isTup, AV.nth, AV.isAgg, AV.cel, AV.toI, AV.toS, AV.toB, List.length_cons, List.length_nil, List.getD_cons_zero, List.getD_cons_succ, if_true, decide_true, beq_self_eq_true, cond_true, cond_false, Bool.not_true, Bool.not_false, Option.bind_some]
        rw [gf1, Option.bind_some]
        simp only [AV.isTup, AV.nth, AV.isAgg, AV.cel, AV.toI, AV.toS, AV.toB, List.length_cons, List.length_nil, List.getD_cons_zero, List.getD_cons_succ, if_true, decide_true, beq_self_eq_true, cond_true, cond_false, Bool.not_true, Bool.not_false, Option.bind_some]
        rw [gf2, Option.bind_some]
        simp only [AV.isTup, AV.nth, AV.isAgg, AV.cel, AV.toI, AV.toS, AV.toB, List.length_cons, List.length_nil, List.getD_cons_zero, List.getD_cons_succ, if_true, decide_true, beq_self_eq_true, cond_true, cond_false, Bool.not_true, Bool.not_false, Option.bind_some]
        rw [decide_eq_true (show ((filled (minimalV n (evenV n given (rs.map R.val)) (qs.map R.val)) : Nat) : Int) ≤ (filled (evenV n given (rs.map R.val)) : Int) by omega)]
end Go.Proofs.Ytchliocobgkmbaa.Rp
