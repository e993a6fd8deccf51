/- Texts for the row of the law FnNarrowHidden, part 13: the plain machine, the program's functions on it, what they come to. No conditions. -/
import Derived.Test.YtjojhbdghhmeeaaBuFnNarrowHidden12
import Derived.Test.YtjojhbdghhmeeaaBuFnNarrowHidden7
import Derived.Test.YtjojhbdghhmeeaaBuFnNarrowHidden11
import Derived.Test.YtjojhbdghhmeeaaBuFnNarrowHidden8
import Derived.Test.YtjojhbdghhmeeaaBuFnNarrowHidden10
import Derived.Test.YtjojhbdghhmeeaaBuFnNarrowHidden9
/- The grid of masks, whether masks have a grid, how many values masks have: both sides. No conditions. -/
set_option linter.unusedVariables false
set_option linter.unusedSimpArgs false
namespace Go.Proofs.Ytjojhbdghhmeeaa.Rp
open Go Go.RowKit Go.Proofs.Ytjojhbdghhmeeaa.Ab

def inB (l g : List Int) : Nat → Nat → Bool
  | _, 0 => true
  | i, j + 1 => has (l.getD i 0) (g.getD i 0).toNat && inB l g (i + 1) j
theorem inB_iff (l g : List Int) : ∀ (j i : Nat), inB l g i j = true ↔ ∀ x, i ≤ x → x < i + j → has (l.getD x 0) (g.getD x 0).toNat = true
  | 0, i => by simp [inB]; intro x h1 h2; omega
  | j + 1, i => by
    rw [inB, Bool.and_eq_true, inB_iff l g j (i + 1)]
    constructor
    · rintro ⟨h1, h2⟩ x h3 h4
      by_cases e : x = i
      · rw [e]; exact h1
      · exact h2 x (by omega) (by omega)
    · intro h; exact ⟨h i (by omega) (by omega), fun x h1 h2 => h x (by omega) (by omega)⟩
def haveV (n : Int) (l g : List Int) : Bool := masksOk n l && (gridOk g n && inB l g 0 g.length)
theorem haveV_iff {n : Int} {l g : List Int} : haveV n l g = true ↔ masksOk n l = true ∧ gridOk g n = true ∧ InM l g := by
  unfold haveV InM
  rw [Bool.and_eq_true, Bool.and_eq_true, inB_iff]
  constructor
  · rintro ⟨a, b, c⟩; exact ⟨a, b, fun i hi => c i (by omega) (by omega)⟩
  · rintro ⟨a, b, c⟩; exact ⟨a, b, fun i _ hi => c i (by omega)⟩
theorem have_full {n : Int} {l g : List Int} (hl : masksOk n l = true) (hg : gridOk g n = true) (h : InM l g) : full g := fun i hi => (maskVals_mem (h.mem hl hg hi)).1
theorem gr {g : List Int} {n : Int} (hg : gridOk g n = true) {i : Nat} (hi : i < g.length) : 0 ≤ g.getD i 0 ∧ g.getD i 0 ≤ 4 := by
  obtain ⟨h1, _, h3⟩ := (gridOk_iff g n).1 hg
  have := h3 _ (mem_getD hi)
  omega
theorem specHave_l2 (rec : Rec) (k : Nat) {H : Hp} {ms xs : Sl} {l g : List Int} {n : Int} (hm : Reads .i64 H ms l) (hx : Reads .i64 H xs g) (hl : masksOk n l = true) (hg : gridOk g n = true) :
    ∀ (j i fuel : Nat), i + j = g.length → j < fuel → spec_MasksHave.l2 rec k fuel ms xs i H = some (.bool (inB l g i j), H) := by
  have hml := hm.len
  have hxl := hx.len
  have hlen := square_len hl hg
  have h16 := gridOk_len hg
  have hM := masks_M hl
  intro j
  induction j with
  | zero =>
    intro i fuel hi hf
    obtain ⟨fuel, rfl⟩ : ∃ q, fuel = q + 1 := ⟨fuel - 1, by omega⟩
    simp (disch := omega) only [spec_MasksHave.l2, dt, df, bt, bf, nt, nf, Bool.and_self, Bool.not_true, Bool.not_false, cond_true, cond_false, Int.toNat_natCast, Int.toNat_zero, Int.toNat_one, Option.bind_some, wr, AV.toB, AV.toI, AV.toS, if_true, inB]
  | succ j ih =>
    intro i fuel hi hf
    obtain ⟨fuel, rfl⟩ : ∃ q, fuel = q + 1 := ⟨fuel - 1, by omega⟩
    obtain ⟨v0, v4⟩ := gr hg (show i < g.length by omega)
    have d1 := ih (i + 1) fuel (by omega) (by omega)
    push_cast at d1
    have hb := m_bit0 (hM.at i) v0 (show g.getD i 0 ≤ 5 by omega)
    rw [inB]
    cases e : has (l.getD i 0) (g.getD i 0).toNat with
    | true =>
      rw [e] at hb
      simp (disch := omega) only [spec_MasksHave.l2, dt, df, bt, bf, nt, nf, Bool.and_self, Bool.not_true, Bool.not_false, cond_true, cond_false, Int.toNat_natCast, Int.toNat_zero, Int.toNat_one, Option.bind_some, wr, AV.toB, AV.toI, AV.toS, if_true, rdn hm, rdn hx, iN, hb, d1, Bool.true_and]
    | false =>
      rw [e] at hb
      simp (disch := omega) only [spec_MasksHave.l2, dt, df, bt, bf, nt, nf, Bool.and_self, Bool.not_true, Bool.not_false, cond_true, cond_false, Int.toNat_natCast, Int.toNat_zero, Int.toNat_one, Option.bind_some, wr, AV.toB, AV.toI, AV.toS, if_true, rdn hm, rdn hx, iN, hb, Bool.false_and]
theorem specMasksHave_ok {k : Nat} (hk : 2000010 ≤ k) {H : Hp} {ms xs : Sl} {l g : List Int} {n : Int} (hb : -1 ≤ n ∧ n ≤ 5) (hm : Reads .i64 H ms l) (hx : Reads .i64 H xs g) (hl : l.length ≤ 1000) (hgl : g.length ≤ 1000) :
    callF PP orc k spec_MasksHave.id [.sl 1 ms, .int .i64 n, .sl 1 xs] H = some (.bool (haveV n l g), H) := by
  obtain ⟨k, rfl⟩ : ∃ q, k = q + 1 := ⟨k - 1, by omega⟩
  rw [spec_MasksHave.call]
  have h1 := specMasksValid_any (show 2000000 ≤ k by omega) hb hm hl
  have h2 := specGridValid_ok (show 2000000 ≤ k by omega) hx (by omega) n
  unfold haveV
  cases e1 : masksOk n l with
  | false =>
    rw [e1] at h1
    simp only [spec_MasksHave.f, spec_MasksHave.j0, dt, df, bt, bf, nt, nf, Bool.and_self, Bool.not_true, Bool.not_false, cond_true, cond_false, Int.toNat_natCast, Int.toNat_zero, Int.toNat_one, Option.bind_some, wr, AV.toB, AV.toI, AV.toS, if_true, h1, Bool.false_and]
  | true =>
    rw [e1] at h1
    cases e2 : gridOk g n with
    | false =>
      rw [e2] at h2
      simp only [spec_MasksHave.f, spec_MasksHave.j0, dt, df, bt, bf, nt, nf, Bool.and_self, Bool.not_true, Bool.not_false, cond_true, cond_false, Int.toNat_natCast, Int.toNat_zero, Int.toNat_one, Option.bind_some, wr, AV.toB, AV.toI, AV.toS, if_true, h1, h2, Bool.false_and, Bool.and_false]
    | true =>
      rw [e2] at h2
      have d1 := specHave_l2 (callF PP orc k) k hm hx e1 e2 g.length 0 k (by omega) (by omega)
      simp only [Int.natCast_zero] at d1
      simp only [spec_MasksHave.f, spec_MasksHave.j0, spec_MasksHave.j1, dt, df, bt, bf, nt, nf, Bool.and_self, Bool.not_true, Bool.not_false, cond_true, cond_false, Int.toNat_natCast, Int.toNat_zero, Int.toNat_one, Option.bind_some, wr, AV.toB, AV.toI, AV.toS, if_true, h1, h2, Bool.true_and, d1]
theorem implHave_l2 (rec : Rec) (k : Nat) {H : Hp} {ms xs : Sl} {l g : List Int} {n : Int} (hm : Reads .i64 H ms l) (hx : Reads .i64 H xs g) (hl : masksOk n l = true) (hg : gridOk g n = true) :
    ∀ (j i fuel : Nat), i + j = g.length → j < fuel → impl_MasksHave.l2 rec k fuel ms xs (g.length : Int) i H = some (.bool (inB l g i j), H) := by
  have hml := hm.len
  have hxl := hx.len
  have hlen := square_len hl hg
  have h16 := gridOk_len hg
  have hM := masks_M hl
  intro j
  induction j with
  | zero =>
    intro i fuel hi hf
    obtain ⟨fuel, rfl⟩ : ∃ q, fuel = q + 1 := ⟨fuel - 1, by omega⟩
    simp (disch := omega) only [impl_MasksHave.l2, dt, df, bt, bf, nt, nf, Bool.and_self, Bool.not_true, Bool.not_false, cond_true, cond_false, Int.toNat_natCast, Int.toNat_zero, Int.toNat_one, Option.bind_some, wr, AV.toB, AV.toI, AV.toS, if_true, inB]
  | succ j ih =>
    intro i fuel hi hf
    obtain ⟨fuel, rfl⟩ : ∃ q, fuel = q + 1 := ⟨fuel - 1, by omega⟩
    obtain ⟨v0, v4⟩ := gr hg (show i < g.length by omega)
    have d1 := ih (i + 1) fuel (by omega) (by omega)
    push_cast at d1
    have hb := m_bit0' (hM.at i) v0 (show g.getD i 0 ≤ 5 by omega)
    rw [inB]
    cases e : has (l.getD i 0) (g.getD i 0).toNat with
    | true =>
      rw [e] at hb
      simp (disch := omega) only [impl_MasksHave.l2, dt, Bool.and_self, Bool.not_true, cond_true, cond_false, Int.toNat_natCast, Option.bind_some, rdn hm, rdn hx, iN, hb, wr (n := (i : Int) + 1), d1, Bool.true_and]
    | false =>
      rw [e] at hb
      simp (disch := omega) only [impl_MasksHave.l2, dt, Bool.and_self, Bool.not_false, cond_true, cond_false, Int.toNat_natCast, Option.bind_some, rdn hm, rdn hx, iN, hb, Bool.false_and]
theorem implMasksHave_ok {k : Nat} (hk : 2000010 ≤ k) {H : Hp} {ms xs : Sl} {l g : List Int} {n : Int} (hb : -1 ≤ n ∧ n ≤ 5) (hm : Reads .i64 H ms l) (hx : Reads .i64 H xs g) (hl : l.length ≤ 1000) (hr : ∀ m ∈ l, -2 ≤ m ∧ m ≤ 63) (hgl : g.length ≤ 1000) :
    callF PP orc k impl_MasksHave.id [.sl 1 ms, .int .i64 n, .sl 1 xs] H = some (.bool (haveV n l g), H) := by
  obtain ⟨k, rfl⟩ : ∃ q, k = q + 1 := ⟨k - 1, by omega⟩
  rw [impl_MasksHave.call]
  have h1 := implMasksValid_ok (show 2000000 ≤ k by omega) hb hm hl hr
  have h2 := implGridValid_ok (show 2000000 ≤ k by omega) hx (by omega) n
  have h3 := implGridFilled_ok (show 2000001 ≤ k by omega) hx (by omega) n
  have hxl := hx.len
  unfold haveV
  cases e1 : masksOk n l with
  | false =>
    rw [e1] at h1
    simp only [impl_MasksHave.f, impl_MasksHave.j0, dt, df, bt, bf, nt, nf, Bool.and_self, Bool.not_true, Bool.not_false, cond_true, cond_false, Int.toNat_natCast, Int.toNat_zero, Int.toNat_one, Option.bind_some, wr, AV.toB, AV.toI, AV.toS, if_true, h1, Bool.false_and]
  | true =>
    rw [e1] at h1
    cases e2 : gridOk g n with
    | false =>
      rw [e2] at h2
      simp only [impl_MasksHave.f, impl_MasksHave.j0, dt, df, bt, bf, nt, nf, Bool.and_self, Bool.not_true, Bool.not_false, cond_true, cond_false, Int.toNat_natCast, Int.toNat_zero, Int.toNat_one, Option.bind_some, wr, AV.toB, AV.toI, AV.toS, if_true, h1, h2, Bool.false_and, Bool.and_false]
    | true =>
      rw [e2] at h2 h3
      rw [ip rfl] at h3
      by_cases c : (filled g : Int) = (g.length : Int)
      · have d1 := implHave_l2 (callF PP orc k) k hm hx e1 e2 g.length 0 k (by omega) (by omega)
        simp only [Int.natCast_zero] at d1
        simp only [impl_MasksHave.f, impl_MasksHave.j0, impl_MasksHave.j1, dt, df, bt, bf, nt, nf, Bool.and_self, Bool.not_true, Bool.not_false, cond_true, cond_false, Int.toNat_natCast, Int.toNat_zero, Int.toNat_one, Option.bind_some, wr, AV.toB, AV.toI, AV.toS, if_true, h1, h2, h3, hxl, nf c, Bool.true_and, d1]
      · have e : inB l g 0 g.length = false := by
          rw [Bool.eq_false_iff]
          intro h
          apply c
          have hf : full g := have_full e1 e2 fun i hi => (inB_iff l g _ _).1 h i (by omega) (by omega)
          rw [filled_eq.2 hf]
        rw [e]
        simp only [impl_MasksHave.f, impl_MasksHave.j0, dt, df, bt, bf, nt, nf, Bool.and_self, Bool.not_true, Bool.not_false, cond_true, cond_false, Int.toNat_natCast, Int.toNat_zero, Int.toNat_one, Option.bind_some, wr, AV.toB, AV.toI, AV.toS, if_true, h1, h2, h3, hxl, nt c, Bool.true_and]

end Go.Proofs.Ytjojhbdghhmeeaa.Rp
/- The first and the second technique: the program's own side. No conditions. -/
set_option linter.unusedVariables false
set_option linter.unusedSimpArgs false
namespace Go.Proofs.Ytjojhbdghhmeeaa.Rp
open Go Go.RowKit Go.Proofs.Ytjojhbdghhmeeaa.Ab

end Go.Proofs.Ytjojhbdghhmeeaa.Rp
/- The second technique: the program's own side. No conditions. -/
set_option linter.unusedVariables false
set_option linter.unusedSimpArgs false
namespace Go.Proofs.Ytjojhbdghhmeeaa.Rp
open Go Go.RowKit Go.Proofs.Ytjojhbdghhmeeaa.Ab

/-- Counting the cells of a line that have a value. -/
theorem iHid_l3 (rec : Rec) (k : Nat) (L0 : Sl → Int → Sl → Int → Int → Hp → An) (L1 : Sl → Int → Sl → Int → Int → Int → Int → Hp → An) {H : Hp} {ms t cs : Sl} {l cells : List Int} {n line x19 x20 : Int} {v : Nat} (hm : Reads .i64 H ms l) (hc : Reads .i64 H cs cells) (hcl : cells.length ≤ 10) (hin : ∀ c ∈ cells, 0 ≤ c ∧ c.toNat < l.length ∧ c < (l.length : Int)) (hM : Ms l) (hv : 1 ≤ v ∧ v ≤ 4) :
    ∀ (j q fuel : Nat) (many at' : Int), q + j = cells.length → j < fuel → 0 ≤ many → many ≤ q →
      ∃ at2, impl_NarrowHidden.l3 rec k L0 L1 fuel ms n t line v at' many x19 x20 cs (cells.length : Int) q H = impl_NarrowHidden.j6 rec k L0 L1 ms n t line v at2 (many + ((cells.drop q).filter fun c => has (l.getD c.toNat 0) v).length) x19 x20 H ∧ (∀ c, many = 0 → (cells.drop q).filter (fun c => has (l.getD c.toNat 0) v) = [c] → at2 = c) ∧ ((cells.drop q).filter (fun c => has (l.getD c.toNat 0) v) = [] → at2 = at') := by
  have hml := hm.len
  have hcs := hc.len
  intro j
  induction j with
  | zero =>
    intro q fuel many at' hq hf h0 h1
    obtain ⟨fuel, rfl⟩ : ∃ q, fuel = q + 1 := ⟨fuel - 1, by omega⟩
    rw [List.drop_eq_nil_of_le (by omega)]
    refine ⟨at', ?_, fun c _ h => (by cases h), fun _ => rfl⟩
    simp (disch := omega) only [impl_NarrowHidden.l3, dt, df, bt, bf, nt, nf, Bool.and_self, Bool.not_true, Bool.not_false, cond_true, cond_false, Int.toNat_natCast, Int.toNat_zero, Int.toNat_one, Option.bind_some, wr, AV.toB, AV.toI, AV.toS, if_true, List.filter_nil, List.length_nil, Int.natCast_zero, Int.add_zero]
  | succ j ih =>
    intro q fuel many at' hq hf h0 h1
    obtain ⟨fuel, rfl⟩ : ∃ q, fuel = q + 1 := ⟨fuel - 1, by omega⟩
    have hq2 : q < cells.length := by omega
    obtain ⟨c0, c1, c2⟩ := hin _ (mem_getD hq2)
    have hd : cells.drop q = cells.getD q 0 :: cells.drop (q + 1) := by
      rw [List.drop_eq_getElem_cons hq2, List.getD_eq_getElem?_getD, List.getElem?_eq_getElem hq2]; rfl
    rw [hd, List.filter_cons]
    have hb := m_bit' (v := (v : Int)) (hM.at (cells.getD q 0).toNat) (by omega) (by omega)
    rw [Int.toNat_natCast] at hb
    cases hh : has (l.getD (cells.getD q 0).toNat 0) v with
    | true =>
      rw [hh] at hb
      obtain ⟨at2, a1, a2, a3⟩ := ih (q + 1) fuel (many + 1) (cells.getD q 0) (by omega) (by omega) (by omega) (by omega)
      push_cast at a1
      rw [if_pos rfl, List.length_cons]
      refine ⟨at2, ?_, fun c hm0 he => ?_, fun h => by cases h⟩
      · push_cast
        rw [show many + ((((cells.drop (q + 1)).filter fun c => has (l.getD c.toNat 0) v).length : Int) + 1) = many + 1 + (((cells.drop (q + 1)).filter fun c => has (l.getD c.toNat 0) v).length : Int) by omega, ← a1]
        simp (disch := omega) only [impl_NarrowHidden.l3, impl_NarrowHidden.j5, dt, df, Bool.and_self, cond_true, Int.toNat_natCast, Option.bind_some, rdn hc, rdn hm, iN, hb, wr (n := many + 1), wr (n := (q : Int) + 1)]
      · rw [List.cons.injEq] at he
        rw [a3 he.2]; exact he.1
    | false =>
      rw [hh] at hb
      obtain ⟨at2, a1, a2, a3⟩ := ih (q + 1) fuel many at' (by omega) (by omega) h0 (by omega)
      push_cast at a1
      rw [if_neg (by simp)]
      refine ⟨at2, ?_, a2, a3⟩
      rw [← a1]
      simp (disch := omega) only [impl_NarrowHidden.l3, impl_NarrowHidden.j5, dt, df, Bool.and_self, cond_true, cond_false, Int.toNat_natCast, Option.bind_some, rdn hc, rdn hm, iN, hb, wr (n := (q : Int) + 1)]
/-- The values from v on of one line. -/
theorem iHid_l1 {k : Nat} (hk : 2000000 ≤ k) (L0 : Sl → Int → Sl → Int → Int → Hp → An) {H0 : Hp} {ms t : Sl} {l : List Int} {n x19 : Int} {line : Nat} (hmk : masksOk n l = true) (hm : Reads .i64 H0 ms l) (hline : (line : Int) < 2 * n) :
    ∀ (j v fuel : Nat) (H : Hp) (a : List Int) (P : Nat → Nat → Prop), (v : Int) + j = n + 1 → 1 ≤ v → j < fuel → H0 <+: H → Own 1 H0 H t (a.map (.int .i64)) → Sub l a P →
      ∃ H' a', impl_NarrowHidden.l1 (callF PP orc k) k L0 fuel ms n t line v x19 line H = L0 ms n t x19 ((line : Int) + 1) H' ∧ H0 <+: H' ∧ Own 1 H0 H' t (a'.map (.int .i64)) ∧ Sub l a' (fun x w => P x w ∨ ∃ u : Nat, v ≤ u ∧ (u : Int) ≤ n ∧ lineHas n l line u = [(x : Int)] ∧ w ≠ u) := by
  obtain ⟨l4, l16, lN, hN, n2, n4⟩ := masks_len hmk
  have hM := masks_M hmk
  have hlc := lineCells_len n line
  intro j
  induction j with
  | zero =>
    intro v fuel H a P hv hv1 hf hp ho hs
    obtain ⟨fuel, rfl⟩ : ∃ q, fuel = q + 1 := ⟨fuel - 1, by omega⟩
    refine ⟨H, a, ?_, hp, ho, hs.congr fun x w hx => ⟨.inl, by rintro (h | ⟨u, h1, h2, _⟩); exact h; omega⟩⟩
    simp (disch := omega) only [impl_NarrowHidden.l1, impl_NarrowHidden.j4, df, cond_false, wr (n := (line : Int) + 1)]
  | succ j ih =>
    intro v fuel H a P hv hv1 hf hp ho hs
    obtain ⟨fuel, rfl⟩ : ∃ q, fuel = q + 1 := ⟨fuel - 1, by omega⟩
    have hal := hs.len
    have htl : t.len = a.length := by have := ho.len; simpa using this
    obtain ⟨cs, Hc, a1, a2, a3⟩ := implLineCells_own hk (n := n) (line := (line : Int)) ⟨by omega, by omega⟩ ⟨by omega, hline⟩ H
    have hpc := hp.trans a2
    have hoc := own_pf ho a2
    have hcl := (own_reads a3).len
    obtain ⟨at2, b1, b2, b3⟩ := iHid_l3 (callF PP orc k) k L0 (impl_NarrowHidden.l1 (callF PP orc k) k L0 fuel) (t := t) (n := n) (line := (line : Int)) (x19 := x19) (x20 := (line : Int)) (pf_reads hpc hm) (own_reads a3) (by omega) (fun c h => line_in hmk h) hM (v := v) ⟨hv1, by omega⟩ (lineCells n line).length 0 k 0 0 (by omega) (by omega) (by omega) (by omega)
    simp only [List.drop_zero, Int.natCast_zero, Int.zero_add] at b1 b2
    have hlh : (lineCells n line).filter (fun c => has (l.getD c.toNat 0) v) = lineHas n l line v := rfl
    rw [hlh] at b1 b2
    by_cases c : (lineHas n l line v).length = 1
    · obtain ⟨x0, hx0⟩ := List.length_eq_one_iff.1 c
      have hat := b2 x0 (by first | rfl | trivial) hx0
      have hxm : x0 ∈ lineCells n line := (List.mem_filter.1 (show x0 ∈ lineHas n l line v by rw [hx0]; simp)).1
      obtain ⟨q0, q1, q2⟩ := line_in hmk hxm
      have hpm : M (pw (v : Int)) := M.pw (by omega) (by omega)
      have h31 : M (mSub 31 (pw (v : Int))) := M.sub ⟨by decide, by decide⟩ hpm
      obtain ⟨H1, d1, d2, d3, d4⟩ := own_set1 hoc hpc x0.toNat (by omega) (mAnd (a.getD x0.toNat 0) (pw (v : Int)))
      have hs1 := hs.step x0.toNat q1 h31
      rw [← and_sub (hs.ms.at _) hpm] at hs1
      obtain ⟨H', a', e1, e2, e3, e4⟩ := ih (v + 1) fuel H1 _ _ (by omega) (by omega) (by omega) d2 d3 hs1
      push_cast at e1
      refine ⟨H', a', ?_, e2, e3, e4.congr5 hM fun x w hx hw => ?_⟩
      · rw [c] at b1
        subst hat
        simp only [Int.natCast_one] at b1
        simp (disch := omega) only [impl_NarrowHidden.l1, dt, cond_true, a1, hcl, AV.toS, if_true, b1, impl_NarrowHidden.j6, bt, Bool.and_self, Option.bind_some, rdn (own_reads hoc), iN, m_shl (v := (v : Int)), m_and (hs.ms.at _) hpm, d1, impl_NarrowHidden.j7, wr (n := (v : Int) + 1), e1]
      · have hnot : Rp.has (mSub 31 (pw (v : Int))) w = true ↔ w ≠ v := by
          rcases has_all w hw (pw (v : Int)) with e | e
          · rw [e, has_pw (by omega)]
            simp only [Bool.not_eq_true', decide_eq_false_iff_not]
            constructor <;> (intro h e; apply h; omega)
          · exact absurd hpm e
        constructor
        · rintro ((h | ⟨h1, h2⟩) | ⟨u, h1, h2⟩)
          · exact .inl h
          · subst h1
            exact .inr ⟨v, Nat.le_refl _, by omega, by rw [hx0]; congr 1; omega, hnot.1 h2⟩
          · exact .inr ⟨u, by omega, h2⟩
        · rintro (h | ⟨u, h1, h2, h3, h4⟩)
          · exact .inl (.inl h)
          · by_cases e : u = v
            · subst e
              rw [hx0, List.cons.injEq] at h3
              exact .inl (.inr ⟨by omega, hnot.2 h4⟩)
            · exact .inr ⟨u, by omega, h2, h3, h4⟩
    · obtain ⟨H', a', e1, e2, e3, e4⟩ := ih (v + 1) fuel Hc a P (by omega) (by omega) (by omega) hpc hoc hs
      push_cast at e1
      refine ⟨H', a', ?_, e2, e3, e4.congr fun x w hx => ?_⟩
      · simp (disch := omega) only [impl_NarrowHidden.l1, dt, cond_true, a1, hcl, AV.toS, if_true, Option.bind_some, b1, impl_NarrowHidden.j6, bf, cond_false, impl_NarrowHidden.j7, wr (n := (v : Int) + 1), e1]
      · constructor
        · rintro (h | ⟨u, h1, h2⟩)
          · exact .inl h
          · exact .inr ⟨u, by omega, h2⟩
        · rintro (h | ⟨u, h1, h2, h3, h4⟩)
          · exact .inl h
          · refine .inr ⟨u, ?_, h2, h3, h4⟩
            by_cases e : u = v
            · subst e; rw [h3] at c; exact absurd rfl c
            · omega
theorem iHid_l0 {k : Nat} (hk : 2000000 ≤ k) {H0 : Hp} {ms t : Sl} {l : List Int} {n : Int} (hmk : masksOk n l = true) (hm : Reads .i64 H0 ms l) :
    ∀ (j line fuel : Nat) (H : Hp) (a : List Int) (P : Nat → Nat → Prop), (line : Int) + j = 2 * n → j < fuel → H0 <+: H → Own 1 H0 H t (a.map (.int .i64)) → Sub l a P →
      ∃ H' a', impl_NarrowHidden.l0 (callF PP orc k) k fuel ms n t (2 * n) line H = some (.sl 1 t, H') ∧ H0 <+: H' ∧ Own 1 H0 H' t (a'.map (.int .i64)) ∧ Sub l a' (fun x w => P x w ∨ ∃ ln u : Nat, line ≤ ln ∧ (ln : Int) < 2 * n ∧ 1 ≤ u ∧ (u : Int) ≤ n ∧ lineHas n l ln u = [(x : Int)] ∧ w ≠ u) := by
  obtain ⟨l4, l16, lN, hN, n2, n4⟩ := masks_len hmk
  intro j
  induction j with
  | zero =>
    intro line fuel H a P hl hf hp ho hs
    obtain ⟨fuel, rfl⟩ : ∃ q, fuel = q + 1 := ⟨fuel - 1, by omega⟩
    refine ⟨H, a, ?_, hp, ho, hs.congr fun x w hx => ⟨.inl, by rintro (h | ⟨ln, u, h1, h2, _⟩); exact h; omega⟩⟩
    simp (disch := omega) only [impl_NarrowHidden.l0, impl_NarrowHidden.j2, df, cond_false]
  | succ j ih =>
    intro line fuel H a P hl hf hp ho hs
    obtain ⟨fuel, rfl⟩ : ∃ q, fuel = q + 1 := ⟨fuel - 1, by omega⟩
    obtain ⟨H2, a', b1, b2, b3, b4⟩ := iHid_l1 hk (impl_NarrowHidden.l0 (callF PP orc k) k fuel) (x19 := 2 * n) hmk hm (line := line) (by omega) n.toNat 1 k H a P (by omega) (by omega) (by omega) hp ho hs
    obtain ⟨H', a'', d1, d2, d3, d4⟩ := ih (line + 1) fuel H2 a' _ (by omega) (by omega) b2 b3 b4
    push_cast at d1
    refine ⟨H', a'', ?_, d2, d3, d4.congr fun x w hx => ?_⟩
    · simp only [Int.natCast_one] at b1
      simp (disch := omega) only [impl_NarrowHidden.l0, dt, cond_true, b1, d1]
    · constructor
      · rintro ((h | ⟨u, h1, h2, h3, h4⟩) | ⟨ln, u, h1, h2⟩)
        · exact .inl h
        · exact .inr ⟨line, u, Nat.le_refl _, by omega, h1, h2, h3, h4⟩
        · exact .inr ⟨ln, u, by omega, h2⟩
      · rintro (h | ⟨ln, u, h1, h2, h3, h4, h5, h6⟩)
        · exact .inl (.inl h)
        · by_cases e : ln = line
          · subst e; exact .inl (.inr ⟨u, h3, h4, h5, h6⟩)
          · exact .inr ⟨ln, u, by omega, h2, h3, h4, h5, h6⟩
theorem implNarrowHidden_ok {k : Nat} (hk : 2000010 ≤ k) {H : Hp} {ms : Sl} {l : List Int} {n : Int} (hb : -1 ≤ n ∧ n ≤ 5) (hm : Reads .i64 H ms l) (hnn : ms.nil = false) (hl : l.length ≤ 1000) (hr : ∀ m ∈ l, -2 ≤ m ∧ m ≤ 63) :
    ∃ t H', callF PP orc k impl_NarrowHidden.id [.sl 1 ms, .int .i64 n] H = some (.sl 1 t, H') ∧ H <+: H' ∧ NilOr H H' t (hiddenV n l) := by
  obtain ⟨k, rfl⟩ : ∃ q, k = q + 1 := ⟨k - 1, by omega⟩
  rw [impl_NarrowHidden.call]
  have h1 := implMasksValid_ok (show 2000000 ≤ k by omega) hb hm hl hr
  have hml := hm.len
  unfold hiddenV
  cases hv : masksOk n l with
  | false =>
    rw [hv] at h1
    rw [iN (by simp)]
    exact ⟨Sl.none, H, by simp only [impl_NarrowHidden.f, dt, df, bt, bf, nt, nf, Bool.and_self, Bool.not_true, Bool.not_false, cond_true, cond_false, Int.toNat_natCast, Int.toNat_zero, Int.toNat_one, Option.bind_some, wr, AV.toB, AV.toI, AV.toS, if_true, h1], (List.prefix_refl _), .inl ⟨rfl, rfl⟩⟩
  | true =>
    rw [hv] at h1
    rw [ip rfl]
    obtain ⟨l4, l16, lN, hN, n2, n4⟩ := masks_len hv
    have hM := masks_M hv
    have h2 := Clone_own (show 1 ≤ k by omega) hm hnn hl
    have hnew := own_new 1 H (l.map (.int .i64)) l.length (by simp)
    obtain ⟨H', a', b1, b2, b3, b4⟩ := iHid_l0 (show 2000000 ≤ k by omega) hv hm (2 * n).toNat 0 k (H ++ [some (Blk.mk false (l.map (.int .i64)))]) l _ (by omega) (by omega) (List.prefix_append _ _) hnew (Sub.refl hM)
    have e : a' = subAll l (PH n l) := (b4.congr fun x w hx => (show _ ↔ PH n l x w from ⟨by rintro (h | ⟨ln, u, _, h⟩); exact h.elim; exact ⟨ln, u, h⟩, fun ⟨ln, u, h⟩ => .inr ⟨ln, u, by omega, h⟩⟩)).eq hM
    subst e
    refine ⟨_, H', ?_, b2, .inr b3⟩
    simp only [Int.natCast_zero] at b1
    simp (disch := omega) only [impl_NarrowHidden.f, dt, df, Bool.not_true, cond_false, AV.toB, AV.toS, if_true, Option.bind_some, h1, h2, wr (n := 2 * n), b1]
end Go.Proofs.Ytjojhbdghhmeeaa.Rp
/- The solved square with a number, in full: the reference's side. No conditions. -/
set_option linter.unusedVariables false
set_option linter.unusedSimpArgs false
namespace Go.Proofs.Ytjojhbdghhmeeaa.Rp
open Go Go.RowKit Go.Proofs.Ytjojhbdghhmeeaa.Ab

/-- The squares that are left from a grid on. -/
def sq (n : Int) (rem : Nat) (g : List Int) : List (List Int) := sols (fun g => !clash g n) n.toNat rem g
def sqFrom (n : Int) (rem : Nat) (g : List Int) (at' : Nat) (j : Nat) (v : Int) : List (List Int) := (upto j v).flatMap fun v => if (!clash (g.set at' v) n) = true then sq n rem (g.set at' v) else []
theorem sqFrom_succ (n : Int) (rem : Nat) (g : List Int) (at' : Nat) (j : Nat) (v : Int) : sqFrom n rem g at' (j + 1) v = (if (!clash (g.set at' v) n) = true then sq n rem (g.set at' v) else []) ++ sqFrom n rem g at' j (v + 1) := by
  unfold sqFrom; rw [upto, List.flatMap_cons]
/-- What the search answers: the square with the number, or nothing and what is left of the number. -/
structure SqTo (b : Nat) (H' : Hp) (L : List (List Int)) (left : Nat) (t : Sl) : Prop where
  yes : ∀ x, L[left]? = some x → Reads .i64 H' t x ∧ t.blk ≠ b ∧ 0 < x.length
  no : L[left]? = none → t.len = 0 ∧ NumAt b H' ((left - L.length : Nat) : Int)
theorem l2Find_ok {n : Int} (hn : 2 ≤ n ∧ n ≤ 4) {b : Nat} : ∀ (rem : Nat) {k : Nat}, 2000002 + rem ≤ k → ∀ {H : Hp} {s : Sl} {g : List Int} {left : Nat}, rem ≤ (n * n).toNat → Reads .i64 H s g → s.blk ≠ b → gridOk g n = true → (∀ i, g.length - rem ≤ i → g.getD i 0 = 0) → NumAt b H left → left < 9223372036854775808 → 
    ∃ t H', callF PP orc k spec_l2Search.id [.sl 1 s, .int .i64 n, .int .i64 (((n * n).toNat - rem : Nat) : Int), .ptr b 0] H = some (.sl 1 t, H') ∧ Adv b H H' ∧ SqTo b H' (sq n rem g) left t := by
  have hnn : 4 ≤ n * n ∧ n * n ≤ 16 := by
    have : n = 2 ∨ n = 3 ∨ n = 4 := by omega
    rcases this with rfl | rfl | rfl <;> decide
  intro rem
  induction rem with
  | zero =>
    intro k hk H s g left hrem hs hsb hg hgz hnum hleft
    obtain ⟨k, rfl⟩ : ∃ q, k = q + 1 := ⟨k - 1, by omega⟩
    rw [spec_l2Search.call]
    obtain ⟨_, h2, h3⟩ := (gridOk_iff g n).1 hg
    have hsl := hs.len
    have e1 : ((((n * n).toNat - 0 : Nat) : Int) == (s.len : Int)) = true := by simp; omega
    have hl : ldI .i64 H b 0 = some (left : Int) := by unfold ldI Hp.cell; rw [hnum]; simp [AV.toI]
    have hb := (List.getElem?_eq_some_iff.1 hnum).1
    have eL : sq n 0 g = [g] := rfl
    rw [eL]
    by_cases c : left = 0
    · subst c
      refine ⟨s, H, ?_, Adv.refl b H, fun x hx => ?_, fun h => by simp at h⟩
      · have e2 : (((0 : Nat) : Int) == 0) = true := rfl
        simp only [spec_l2Search.f, e1, cond_true, hl, Option.bind_some, e2]
      · simp at hx; subst hx; exact ⟨hs, hsb, by omega⟩
    · have w : IntKind.i64.wrap ((left : Int) - 1) = ((left - 1 : Nat) : Int) := by rw [wr (by omega) (by omega)]; omega
      obtain ⟨H', a1, a2, a3, a4⟩ := sto1' hnum (.int .i64 ((left - 1 : Nat) : Int))
      refine ⟨Sl.none, H', ?_, ⟨a3, by omega⟩, fun x hx => ?_, fun _ => ⟨rfl, by simpa [NumAt] using a2⟩⟩
      · have e2 : ((left : Int) == 0) = false := by simp; omega
        simp only [spec_l2Search.f, e1, cond_true, cond_false, hl, Option.bind_some, e2, w, a1]
      · rw [List.getElem?_eq_none (by simp; omega)] at hx; cases hx
  | succ rem ih =>
    intro k hk H s g left hrem hs hsb hg hgz hnum hleft
    obtain ⟨k, rfl⟩ : ∃ q, k = q + 1 := ⟨k - 1, by omega⟩
    rw [spec_l2Search.call]
    obtain ⟨_, h2, h3⟩ := (gridOk_iff g n).1 hg
    have hsl := hs.len
    have hgl : g.length = (n * n).toNat := by omega
    have e1 : ((((n * n).toNat - (rem + 1) : Nat) : Int) == (s.len : Int)) = false := by simp; omega
    have eL : sq n (rem + 1) g = sqFrom n rem g (g.length - (rem + 1)) n.toNat 1 := by
      have h0 := hgz (g.length - (rem + 1)) (Nat.le_refl _)
      unfold sq sqFrom
      rw [sols, if_neg (by omega)]; rfl
    rw [eL, hgl]
    have hgz' : ∀ i, g.length - rem ≤ i → i ≠ (n * n).toNat - (rem + 1) → g.getD i 0 = 0 := fun i h _ => hgz i (by omega)
    generalize hat : (n * n).toNat - (rem + 1) = at' at *
    have hw : IntKind.i64.wrap ((at' : Int) + 1) = (((n * n).toNat - rem : Nat) : Int) := by rw [wr (by omega) (by omega)]; omega
    -- the loop
    have loop : ∀ (j fuel : Nat) (v : Int) (H1 : Hp) (left : Nat), v + j = n + 1 → 1 ≤ v → j < fuel → Adv b H H1 → NumAt b H1 left → left < 9223372036854775808 →
        ∃ t H', spec_l2Search.l0 (callF PP orc k) k fuel s n at' b 0 v H1 = some (.sl 1 t, H') ∧ Adv b H H' ∧ SqTo b H' (sqFrom n rem g at' j v) left t := by
      intro j
      induction j with
      | zero =>
        intro fuel v H1 left hv hv1 hf hadv hnum hleft
        obtain ⟨fuel, rfl⟩ : ∃ q, fuel = q + 1 := ⟨fuel - 1, by omega⟩
        have : ¬ (v ≤ n) := by omega
        refine ⟨Sl.none, H1, ?_, hadv, fun x hx => by simp [sqFrom, upto] at hx, fun _ => ⟨rfl, by simpa [sqFrom, upto] using hnum⟩⟩
        simp only [spec_l2Search.l0, this, decide_false, cond_false]
      | succ j ihj =>
        intro fuel v H1 left hv hv1 hf hadv hnum hleft
        obtain ⟨fuel, rfl⟩ : ∃ q, fuel = q + 1 := ⟨fuel - 1, by omega⟩
        have hvn : v ≤ n := by omega
        have hs1 := hadv.reads hsb hs
        have c1 := read_ok hs1
        have c2 := appl_ok H1 g .i64 (by omega)
        have hnew := own_new 1 H1 (g.map (.int .i64)) g.length (by simp)
        obtain ⟨H6, d1, d2, d3, d4, d5⟩ := own_set hnew (List.prefix_append _ _) at' (by omega) v
        have hb1 : b < H1.length := (List.getElem?_eq_some_iff.1 hnum).1
        have hg6 := grid_set hg at' v ⟨by omega, hvn⟩
        obtain ⟨H7, f1, f2⟩ := specl2Clash_ok (show 2000001 ≤ k by omega) (own_reads d3) hg6
        have adv6 : Adv b H1 H6 := pf_adv d2
        have num7 : NumAt b H7 left := pf_get (d2.trans f2) hnum
        have adv7 : Adv b H H7 := hadv.trans (pf_adv (d2.trans f2))
        have q0 : (0 : Int) ≤ (at' : Int) := by omega
        have q1 : (at' : Int) < ((Sl.mk false H1.length 0 g.length).len : Int) := by show (at' : Int) < (g.length : Int); omega
        have w1 : IntKind.i64.wrap (v + 1) = v + 1 := wr (by omega) (by omega)
        have gl : s.len = g.length := hsl
        have d1' : (H1 ++ [some (Blk.mk false (g.map (.int .i64)))]).sto H1.length (0 + at') [.int .i64 v] = some H6 := d1
        rw [sqFrom_succ]
        cases hc : clash (g.set at' v) n with
        | true =>
          obtain ⟨t, H', i1, i2, i3⟩ := ihj fuel (v + 1) H7 left (by omega) (by omega) (by omega) adv7 num7 hleft
          rw [if_neg (by simp), List.nil_append]
          refine ⟨t, H', ?_, i2, i3⟩
          simp only [spec_l2Search.l0, spec_l2Search.j1, hvn, decide_true, cond_true, c1, gl, c2, Option.bind_some, cells_ok, Bool.and_self, q0, q1, Int.toNat_natCast, Nat.mul_one, d1', f1, AV.toB, hc, w1, i1]
        | false =>
          have hs6 := pf_reads f2 (own_reads d3)
          rw [if_pos (by simp)]
          obtain ⟨t, H8, r1, r2, r3⟩ := ih (k := k) (by omega) (H := H7) (s := Sl.mk false H1.length 0 g.length) (g := g.set at' v) (left := left) (by omega) hs6 (by simp only; omega) hg6 (fun i hi => by
            rw [List.length_set] at hi
            rw [getD_set, if_neg (by omega)]
            exact hgz' i hi (by omega)) num7 hleft
          by_cases hlt : left < (sq n rem (g.set at' v)).length
          · obtain ⟨t1, t2, t3⟩ := r3.yes _ (List.getElem?_eq_getElem hlt)
            have hpos : (t.len : Int) > 0 := by rw [t1.len]; omega
            refine ⟨t, H8, ?_, adv7.trans r2, fun x hx => ?_, fun h => ?_⟩
            · simp only [spec_l2Search.l0, spec_l2Search.j1, hvn, decide_true, cond_true, c1, gl, c2, Option.bind_some, cells_ok, Bool.and_self, q0, q1, Int.toNat_natCast, Nat.mul_one, d1', f1, AV.toB, hc, cond_false, hw, r1, AV.toS, if_true, hpos]
            · rw [List.getElem?_append_left hlt] at hx; exact r3.yes x hx
            · rw [List.getElem?_append_left hlt] at h; rw [List.getElem?_eq_getElem hlt] at h; cases h
          · obtain ⟨t1, t2⟩ := r3.no (List.getElem?_eq_none (by omega))
            have hneg : ¬ ((t.len : Int) > 0) := by omega
            obtain ⟨u, H', i1, i2, i3⟩ := ihj fuel (v + 1) H8 _ (by omega) (by omega) (by omega) (adv7.trans r2) t2 (by omega)
            refine ⟨u, H', ?_, i2, fun x hx => ?_, fun h => ?_⟩
            · simp only [spec_l2Search.l0, spec_l2Search.j1, hvn, decide_true, cond_true, c1, gl, c2, Option.bind_some, cells_ok, Bool.and_self, q0, q1, Int.toNat_natCast, Nat.mul_one, d1', f1, AV.toB, hc, cond_false, hw, r1, AV.toS, if_true, hneg, decide_false, w1, i1]
            · rw [List.getElem?_append_right (by omega)] at hx; exact i3.yes x hx
            · rw [List.getElem?_append_right (by omega)] at h
              have := i3.no h
              rw [Nat.sub_sub] at this
              rw [List.length_append]; exact this
    obtain ⟨t, H', i1, i2, i3⟩ := loop n.toNat k 1 H left (by omega) (by omega) (by omega) (Adv.refl b H) hnum hleft
    refine ⟨t, H', ?_, i2, i3⟩
    simp only [spec_l2Search.f, e1, cond_false]; exact i1

/-- The square with a number; none if there are not so many. -/
def squareV (n x : Int) : List Int := if (2 ≤ n ∧ n ≤ 4) ∧ 0 ≤ x then ((squares n)[x.toNat]?).getD [] else []
theorem squareV_mem {n : Int} (hn : 2 ≤ n ∧ n ≤ 4) {x : Int} (h : squareV n x ≠ []) : squareV n x ∈ squares n := by
  unfold squareV at h ⊢
  split at h
  · rename_i c
    rw [if_pos c]
    cases e : (squares n)[x.toNat]? with
    | none => rw [e] at h; simp at h
    | some y =>
      have := List.mem_of_getElem? e
      exact this
  · simp at h
theorem squareV_len (n x : Int) : (squareV n x).length ≤ 16 := by
  by_cases c : 2 ≤ n ∧ n ≤ 4
  · by_cases h : squareV n x = []
    · rw [h]; simp
    · exact (squares_pos c (squareV_mem c h)).2.2.2.2
  · unfold squareV; rw [if_neg (by omega)]; simp
theorem specSquare_full {k : Nat} (hk : 2000100 ≤ k) {n x : Int} (hx : x ≤ 9223372036854775807) (H : Hp) :
    ∃ t H', callF PP orc k spec_SquareNumber.id [.int .i64 n, .int .i64 x] H = some (.sl 1 t, H') ∧ H <+: H' ∧ Own 1 H H' t ((squareV n x).map (.int .i64)) := by
  obtain ⟨k, rfl⟩ : ∃ q, k = q + 1 := ⟨k - 1, by omega⟩
  rw [spec_SquareNumber.call]
  have hin := l1In_ok (show 1 ≤ k by omega) n 2 4
  by_cases hn : 2 ≤ n ∧ n ≤ 4
  · by_cases h0 : 0 ≤ x
    · have hz := zeros_len hn
      have hnn : 0 ≤ n * n ∧ n * n ≤ 16 := by omega
      obtain ⟨left, rfl⟩ := Int.eq_ofNat_of_zero_le h0
      have w : IntKind.i64.wrap (n * n) = n * n := wr (by omega) (by omega)
      obtain ⟨H3, a1, a2, a3, a4⟩ := sto1' (H := H ++ [some (Blk.mk false [.int .i64 0])]) (b := H.length) (x := .int .i64 0) (by simp) (.int .i64 (left : Int))
      have hp3 : H <+: H3 := a3.pf (Nat.le_refl _) (List.prefix_append _ _) (by omega)
      have hl3 : H3.length = H.length + 1 := by rw [a4]; simp
      have e0 : ∀ N : Nat, (List.replicate N [AV.int .i64 0]).flatten = (List.replicate N 0).map (.int .i64) := fun N => by
        induction N with
        | zero => rfl
        | succ N ih => simp [List.replicate_succ, ih]
      have hnew := own_new 1 H3 ((zeros n).map (.int .i64)) (n * n).toNat (by simp; exact hz.2.1.symm)
      obtain ⟨t, H4, b1, b2, b3⟩ := l2Find_ok (b := H.length) hn (n * n).toNat (k := k) (by omega) (H := H3 ++ [some (Blk.mk false ((zeros n).map (.int .i64)))]) (left := left) (Nat.le_refl _) (own_reads hnew) (by simp only; omega) (zeros_grid hn) (fun i _ => zeros_at n i) (pf_get (List.prefix_append _ _) a2) (by omega)
      have hp4 : H <+: H4 := b2.but.pf (Nat.le_refl _) (hp3.trans (List.prefix_append _ _)) b2.le
      have esq : sq n (n * n).toNat (zeros n) = squares n := rfl
      rw [esq] at b3
      have hrd : Reads .i64 H4 t (squareV n (left : Int)) := by
        unfold squareV
        rw [if_pos ⟨hn, h0⟩, Int.toNat_natCast]
        cases e : (squares n)[left]? with
        | none => exact reads_nil (b3.no e).1
        | some y => exact (b3.yes y e).1
      have hl16 := squareV_len n (left : Int)
      have d1 := read_ok hrd
      have d2 := appl_ok H4 (squareV n (left : Int)) .i64 (by omega)
      refine ⟨_, _, ?_, hp4.trans (List.prefix_append _ _), own_base (own_new 1 H4 ((squareV n (left : Int)).map (.int .i64)) (squareV n (left : Int)).length (by simp)) hp4⟩
      have hx0 : ¬ ((left : Int) < 0) := by omega
      simp only [Nat.sub_self] at b1
      have tl := hrd.len
      simp only [spec_SquareNumber.f, spec_SquareNumber.j0, spec_SquareNumber.j1, hin, hn, and_self, decide_true, Option.bind_some, AV.toB, Bool.not_true, cond_false, hx0, decide_false, a1, w, e0]
      rw [if_pos (by omega)]
      have b1' : callF PP orc k spec_l2Search.id [.sl 1 (Sl.mk false H3.length 0 (n * n).toNat), .int .i64 n, .int .i64 0, .ptr H.length 0] (H3 ++ [some (Blk.mk false ((List.replicate (n * n).toNat (0 : Int)).map (.int .i64)))]) = some (.sl 1 t, H4) := b1
      simp only [b1', Option.bind_some, AV.toS, if_true, d1, tl, d2, cells_ok, Bool.and_self, cond_true]
    · refine ⟨Sl.mk false H.length 0 0, H ++ [some (Blk.mk false [])], ?_, (List.prefix_append _ _), ?_⟩
      · have hx0 : x < 0 := by omega
        simp only [spec_SquareNumber.f, spec_SquareNumber.j0, spec_SquareNumber.j1, hin, hn, and_self, decide_true, Option.bind_some, AV.toB, Bool.not_true, cond_false, cond_true, hx0]
      · unfold squareV; rw [if_neg (by omega)]; exact own_new 1 H [] 0 rfl
  · refine ⟨Sl.mk false H.length 0 0, H ++ [some (Blk.mk false [])], ?_, (List.prefix_append _ _), ?_⟩
    · simp only [spec_SquareNumber.f, spec_SquareNumber.j0, spec_SquareNumber.j1, hin, hn, decide_false, Option.bind_some, AV.toB, Bool.not_false, cond_true]
    · unfold squareV; rw [if_neg (by omega)]; exact own_new 1 H [] 0 rfl
end Go.Proofs.Ytjojhbdghhmeeaa.Rp
/- Two lists are the same. No conditions. -/
set_option linter.unusedVariables false
set_option linter.unusedSimpArgs false
namespace Go.Proofs.Ytjojhbdghhmeeaa.Rp
open Go Go.RowKit Go.Proofs.Ytjojhbdghhmeeaa.Ab

theorem sameInts_l0 (rec : Rec) (k : Nat) {H : Hp} {s t : Sl} {x y : List Int} (hs : Reads .i64 H s x) (ht : Reads .i64 H t y) (hl : x.length = y.length) (h1 : x.length ≤ 1000) :
    ∀ (j i fuel : Nat), i + j = x.length → j < fuel → laws_sameInts.l0 rec k fuel s t i H = some (.bool (decide (x.drop i = y.drop i)), H) := by
  have hsl := hs.len
  have htl := ht.len
  intro j
  induction j with
  | zero =>
    intro i fuel hi hf
    obtain ⟨fuel, rfl⟩ : ∃ q, fuel = q + 1 := ⟨fuel - 1, by omega⟩
    rw [List.drop_eq_nil_of_le (show x.length ≤ i by omega), List.drop_eq_nil_of_le (show y.length ≤ i by omega)]
    simp (disch := omega) only [laws_sameInts.l0, dt, df, bt, bf, nt, nf, Bool.and_self, Bool.not_true, Bool.not_false, cond_true, cond_false, Int.toNat_natCast, Int.toNat_zero, Int.toNat_one, Option.bind_some, wr, AV.toB, AV.toI, AV.toS, if_true]
    rfl
  | succ j ih =>
    intro i fuel hi hf
    obtain ⟨fuel, rfl⟩ : ∃ q, fuel = q + 1 := ⟨fuel - 1, by omega⟩
    have hx : i < x.length := by omega
    have hy : i < y.length := by omega
    have ex : x.drop i = x.getD i 0 :: x.drop (i + 1) := by
      rw [List.drop_eq_getElem_cons hx, List.getD_eq_getElem?_getD, List.getElem?_eq_getElem hx]; rfl
    have ey : y.drop i = y.getD i 0 :: y.drop (i + 1) := by
      rw [List.drop_eq_getElem_cons hy, List.getD_eq_getElem?_getD, List.getElem?_eq_getElem hy]; rfl
    rw [ex, ey]
    by_cases c : x.getD i 0 = y.getD i 0
    · have d1 := ih (i + 1) fuel (by omega) (by omega)
      push_cast at d1
      rw [show decide (x.getD i 0 :: x.drop (i + 1) = y.getD i 0 :: y.drop (i + 1)) = decide (x.drop (i + 1) = y.drop (i + 1)) by rw [c]; simp, ← d1]
      simp (disch := omega) only [laws_sameInts.l0, dt, df, bt, bf, nt, nf, Bool.and_self, Bool.not_true, Bool.not_false, cond_true, cond_false, Int.toNat_natCast, Int.toNat_zero, Int.toNat_one, Option.bind_some, wr, AV.toB, AV.toI, AV.toS, if_true, rdn hs, rdn ht, nf]
    · rw [show decide (x.getD i 0 :: x.drop (i + 1) = y.getD i 0 :: y.drop (i + 1)) = false from decide_eq_false fun h => c (List.cons.inj h).1]
      simp (disch := omega) only [laws_sameInts.l0, dt, df, bt, bf, nt, nf, Bool.and_self, Bool.not_true, Bool.not_false, cond_true, cond_false, Int.toNat_natCast, Int.toNat_zero, Int.toNat_one, Option.bind_some, wr, AV.toB, AV.toI, AV.toS, if_true, rdn hs, rdn ht, nt]
theorem sameInts_ok {k : Nat} (hk : 2000000 ≤ k) {H : Hp} {s t : Sl} {x y : List Int} (hs : Reads .i64 H s x) (ht : Reads .i64 H t y) (h1 : x.length ≤ 1000) (h2 : y.length ≤ 1000) :
    callF PP orc k laws_sameInts.id [.sl 1 s, .sl 1 t] H = some (.bool (decide (x = y)), H) := by
  obtain ⟨k, rfl⟩ : ∃ q, k = q + 1 := ⟨k - 1, by omega⟩
  rw [laws_sameInts.call]
  have hsl := hs.len
  have htl := ht.len
  by_cases c : x.length = y.length
  · have d1 := sameInts_l0 (callF PP orc k) k hs ht c h1 x.length 0 k (by omega) (by omega)
    simp only [Int.natCast_zero, List.drop_zero] at d1
    rw [← d1]
    simp (disch := omega) only [laws_sameInts.f, dt, df, bt, bf, nt, nf, Bool.and_self, Bool.not_true, Bool.not_false, cond_true, cond_false, Int.toNat_natCast, Int.toNat_zero, Int.toNat_one, Option.bind_some, wr, AV.toB, AV.toI, AV.toS, if_true]
  · rw [decide_eq_false (fun h => c (congrArg List.length h))]
    simp (disch := omega) only [laws_sameInts.f, dt, df, bt, bf, nt, nf, Bool.and_self, Bool.not_true, Bool.not_false, cond_true, cond_false, Int.toNat_natCast, Int.toNat_zero, Int.toNat_one, Option.bind_some, wr, AV.toB, AV.toI, AV.toS, if_true]
theorem same_ok {k : Nat} (hk : 2000000 ≤ k) {H : Hp} {s t : Sl} {x : List Int} (hs : Reads .i64 H s x) (ht : Reads .i64 H t x) (h1 : x.length ≤ 1000) :
    callF PP orc k laws_sameInts.id [.sl 1 s, .sl 1 t] H = some (.bool true, H) := by
  rw [sameInts_ok hk hs ht h1 h1, decide_eq_true rfl]
end Go.Proofs.Ytjojhbdghhmeeaa.Rp
/- Within, and what is kept: the tests of the laws on masks. No conditions. -/
set_option linter.unusedVariables false
set_option linter.unusedSimpArgs false
namespace Go.Proofs.Ytjojhbdghhmeeaa.Rp
open Go Go.RowKit Go.Proofs.Ytjojhbdghhmeeaa.Ab

theorem sub_zero {a b : Int} (ha : M a) (hb : M b) (h : ∀ v : Nat, has a v = true → has b v = true) : mSub a b = 0 := by
  apply Classical.byContradiction
  intro hc
  obtain ⟨v, hv⟩ := (ne_zero_has (M.sub ha hb)).1 hc
  rw [has_sub ha hb, Bool.and_eq_true, Bool.not_eq_true'] at hv
  rw [h v hv.1] at hv
  exact absurd hv.2 (by simp)
theorem within_l0 (rec : Rec) (k : Nat) {H : Hp} {s t : Sl} {x y : List Int} (hs : Reads .i64 H s x) (ht : Reads .i64 H t y) (hx : Ms x) (hy : Ms y) (h : SubM x y) (h1 : x.length ≤ 1000) :
    ∀ (j i fuel : Nat), i + j = x.length → j < fuel → laws_within.l0 rec k fuel s t i H = some (.bool true, H) := by
  have hsl := hs.len
  have htl := ht.len
  have hl := h.1
  intro j
  induction j with
  | zero =>
    intro i fuel hi hf
    obtain ⟨fuel, rfl⟩ : ∃ q, fuel = q + 1 := ⟨fuel - 1, by omega⟩
    simp (disch := omega) only [laws_within.l0, dt, df, bt, bf, nt, nf, Bool.and_self, Bool.not_true, Bool.not_false, cond_true, cond_false, Int.toNat_natCast, Int.toNat_zero, Int.toNat_one, Option.bind_some, wr, AV.toB, AV.toI, AV.toS, if_true]
  | succ j ih =>
    intro i fuel hi hf
    obtain ⟨fuel, rfl⟩ : ∃ q, fuel = q + 1 := ⟨fuel - 1, by omega⟩
    have d1 := ih (i + 1) fuel (by omega) (by omega)
    push_cast at d1
    have e := sub_zero (hx.at i) (hy.at i) fun v hv => h.2 i v (by omega) hv
    simp (disch := omega) only [laws_within.l0, dt, nf, Bool.and_self, cond_true, cond_false, Int.toNat_natCast, Option.bind_some, rdn hs, rdn ht, m_sub (hx.at i) (hy.at i), e, wr (n := (i : Int) + 1), d1]
theorem within_ok {k : Nat} (hk : 2000000 ≤ k) {H : Hp} {s t : Sl} {x y : List Int} (hs : Reads .i64 H s x) (ht : Reads .i64 H t y) (hx : Ms x) (hy : Ms y) (h : SubM x y) (h1 : x.length ≤ 1000) :
    callF PP orc k laws_within.id [.sl 1 s, .sl 1 t] H = some (.bool true, H) := by
  obtain ⟨k, rfl⟩ : ∃ q, k = q + 1 := ⟨k - 1, by omega⟩
  rw [laws_within.call]
  have hsl := hs.len
  have htl := ht.len
  have hl := h.1
  have d1 := within_l0 (callF PP orc k) k hs ht hx hy h h1 x.length 0 k (by omega) (by omega)
  simp only [Int.natCast_zero] at d1
  simp (disch := omega) only [laws_within.f, nf, cond_false, d1]
theorem keeps_l0 {k : Nat} (hk : 2000100 ≤ k) {H0 : Hp} {s t : Sl} {l l' : List Int} {n : Int} (hs : Reads .i64 H0 s l) (ht : Reads .i64 H0 t l') (hl : masksOk n l = true) (hl' : masksOk n l' = true) (h : ∀ g ∈ squares n, InM l g → InM l' g) :
    ∀ (j i fuel : Nat) (H : Hp), i + j = 14 → j < fuel → H0 <+: H → ∃ H', laws_keeps.l0 (callF PP orc k) k fuel s t n i H = some (.bool true, H') ∧ H0 <+: H' := by
  have hn := (masksOk_iff.1 hl).1
  obtain ⟨q1, q2, q3⟩ := masks_rg' hl
  obtain ⟨r1, r2, r3⟩ := masks_rg' hl'
  intro j
  induction j with
  | zero =>
    intro i fuel H hi hf hp
    obtain ⟨fuel, rfl⟩ : ∃ q, fuel = q + 1 := ⟨fuel - 1, by omega⟩
    exact ⟨H, by simp (disch := omega) only [laws_keeps.l0, df, cond_false], hp⟩
  | succ j ih =>
    intro i fuel H hi hf hp
    obtain ⟨fuel, rfl⟩ : ∃ q, fuel = q + 1 := ⟨fuel - 1, by omega⟩
    obtain ⟨u, H1, a1, a2, a3⟩ := specSquare_full hk (n := n) (x := (i : Int)) (by omega) H
    have hul := (own_reads a3).len
    have h16 := squareV_len n (i : Int)
    have hp1 := hp.trans a2
    obtain ⟨H', b1, b2⟩ := ih (i + 1) fuel H1 (by omega) (by omega) hp1
    push_cast at b1
    by_cases c : squareV n (i : Int) = []
    · rw [c] at hul
      refine ⟨H1, ?_, hp1⟩
      have hz : (u.len : Int) = 0 := by rw [hul]; rfl
      simp (disch := omega) only [laws_keeps.l0, dt, bt, cond_true, Option.bind_some, AV.toS, if_true, a1]
    · have hg := squareV_mem hn c
      have hpos : 0 < (squareV n (i : Int)).length := List.length_pos_iff.2 c
      have h2 := specMasksHave_ok (show 2000010 ≤ k by omega) (n := n) (by omega) (pf_reads hp1 hs) (own_reads a3) (by omega) (by omega)
      have h3 := implMasksHave_ok (show 2000010 ≤ k by omega) (n := n) (by omega) (pf_reads hp1 ht) (own_reads a3) (by omega) r3 (by omega)
      refine ⟨H', ?_, b2⟩
      cases e : haveV n l (squareV n (i : Int)) with
      | true =>
        have e' : haveV n l' (squareV n (i : Int)) = true := haveV_iff.2 ⟨hl', (squares_pos hn hg).2.1, h _ hg (haveV_iff.1 e).2.2⟩
        rw [e] at h2
        rw [e'] at h3
        simp (disch := omega) only [laws_keeps.l0, laws_keeps.j1, laws_keeps.j2, dt, bf, cond_true, cond_false, Bool.not_true, Option.bind_some, AV.toS, AV.toB, if_true, a1, h2, h3, wr (n := (i : Int) + 1), b1]
      | false =>
        rw [e] at h2
        simp (disch := omega) only [laws_keeps.l0, laws_keeps.j1, laws_keeps.j2, dt, bf, cond_true, cond_false, Option.bind_some, AV.toS, AV.toB, if_true, a1, h2, wr (n := (i : Int) + 1), b1]
where
  masks_rg' {n : Int} {l : List Int} (h : masksOk n l = true) : l.length ≤ 16 ∧ 0 < l.length ∧ ∀ m ∈ l, -2 ≤ m ∧ m ≤ 63 := by
    obtain ⟨h1, h2, h3⟩ := masksOk_iff.1 h
    have := masks_len h
    refine ⟨by omega, by omega, fun m hm => ?_⟩
    have := (maskOk_iff.1 (h2 m hm)).1
    have := topMask_le n
    omega
theorem keeps_ok {k : Nat} (hk : 2000101 ≤ k) {H : Hp} {s t : Sl} {l l' : List Int} {n : Int} (hs : Reads .i64 H s l) (ht : Reads .i64 H t l') (hl : masksOk n l = true) (hl' : masksOk n l' = true) (h : ∀ g ∈ squares n, InM l g → InM l' g) :
    ∃ H', callF PP orc k laws_keeps.id [.sl 1 s, .sl 1 t, .int .i64 n] H = some (.bool true, H') ∧ H <+: H' := by
  obtain ⟨k, rfl⟩ : ∃ q, k = q + 1 := ⟨k - 1, by omega⟩
  rw [laws_keeps.call]
  exact keeps_l0 (by omega) hs ht hl hl' h 14 0 k H (by omega) (by omega) (List.prefix_refl _)
end Go.Proofs.Ytjojhbdghhmeeaa.Rp
/- The law FnNarrowHidden: true whatever it is given. No conditions. -/
set_option linter.unusedVariables false
set_option linter.unusedSimpArgs false
namespace Go.Proofs.Ytjojhbdghhmeeaa.Rp
open Go Go.RowKit Go.Proofs.Ytjojhbdghhmeeaa.Ab

theorem DrawNarrowHidden_ok {k : Nat} (hk : 2000602 ≤ k) {H : Hp} {s : Sl} {l : List Int} (hs : Reads .u8 H s l) (hb : ∀ x ∈ l, 0 ≤ x ∧ x ≤ 255) : DrawnM H (callF PP orc k spec_DrawNarrowHidden.id [.sl 1 s] H) := by
  obtain ⟨k, rfl⟩ : ∃ q, k = q + 1 := ⟨k - 1, by omega⟩
  rw [spec_DrawNarrowHidden.call]
  obtain ⟨H1, n, t, c, l', p', H', a1, a2, a3, a3', a4, a5, a6, a7⟩ := open_masks (show 2000601 ≤ k by omega) hs hb (x1 := 12) (by omega)
  have := a4.drawn a3 a6 a7
  simp only [spec_DrawNarrowHidden.f, dt, df, bt, bf, nt, nf, Bool.and_self, Bool.not_true, Bool.not_false, cond_true, cond_false, Int.toNat_natCast, Int.toNat_zero, Int.toNat_one, Option.bind_some, wr, AV.toB, AV.toI, AV.toS, if_true, AV.toP, a1, a2, AV.isTup, AV.nth, List.length_cons, List.length_nil, List.getD_cons_zero, List.getD_cons_succ, beq_self_eq_true]
  exact this
theorem NarrowHidden_law {k : Nat} (hk : 2000800 ≤ k) {H : Hp} {s : Sl} {l : List Int} (hs : Reads .u8 H s l) (hb : ∀ x ∈ l, 0 ≤ x ∧ x ≤ 255) :
    ∃ H', callF PP orc k laws_FnNarrowHidden.id [.sl 1 s] H = some (.bool true, H') := by
  obtain ⟨k, rfl⟩ : ∃ q, k = q + 1 := ⟨k - 1, by omega⟩
  rw [laws_FnNarrowHidden.call]
  by_cases hbig : (s.len : Int) > 1048576
  · exact ⟨H, by simp only [laws_FnNarrowHidden.f, dt hbig, cond_true]⟩
  · obtain ⟨n, t, v, H1, a1, a2, a3, a4, a5, a6, a7, a8⟩ := DrawNarrowHidden_ok (show 2000602 ≤ k by omega) hs hb
    obtain ⟨x, H2, b1, b2, b3⟩ := implNarrowHidden_ok (show 2000010 ≤ k by omega) (n := n) ⟨a7, a8⟩ a3 a4 (by omega) a6
    obtain ⟨y, H3, c1, c2, c3⟩ := specNarrowHidden_ok (show 2000010 ≤ k by omega) (n := n) ⟨a7, a8⟩ (pf_reads b2 a3) (by omega)
    have hx16 : (hiddenV n v).length ≤ 1000 := by
      cases e : masksOk n v with
      | true => have := (hiddenV_good e).2.1; omega
      | false => unfold hiddenV; rw [e]; simp
    have sm := same_ok (show 2000000 ≤ k by omega) (pf_reads c2 b3.reads) (own_reads c3) hx16
    have hm3 := pf_reads (b2.trans c2) a3
    have h2 := specMasksValid_any (show 2000000 ≤ k by omega) (n := n) ⟨a7, a8⟩ hm3 (by omega)
    unfold laws_FnNarrowHidden.f
    rw [df hbig, cond_false, a1, Option.bind_some]
    simp only [AV.isTup, AV.nth, AV.toI, AV.toS, List.length_cons, List.length_nil, List.getD_cons_zero, List.getD_cons_succ, if_true, beq_self_eq_true, cond_true, Option.bind_some]
    rw [b1, Option.bind_some]
    simp only [AV.toS, if_true, Option.bind_some]
    rw [c1, Option.bind_some]
    simp only [AV.toS, if_true, Option.bind_some]
    rw [sm, Option.bind_some]
    simp only [AV.toB, Option.bind_some, Bool.not_true, cond_false]
    rw [h2, Option.bind_some]
    cases e : masksOk n v with
    | false =>
      obtain ⟨H4, d1, d2⟩ := alive_ok (show 2000002 ≤ k by omega) H3
      have hxl := b3.reads.len
      have hz : (x.len : Int) = 0 := by
        rw [hxl]; unfold hiddenV; rw [e]; rfl
      refine ⟨H4, ?_⟩
      simp only [AV.toB, Option.bind_some, Bool.not_false, cond_true, bt hz, d1]
    | true =>
      obtain ⟨g1, g2⟩ := hiddenV_good e
      have h4 := within_ok (show 2000000 ≤ k by omega) (pf_reads c2 b3.reads) hm3 (masks_M g1) (masks_M e) g2 hx16
      obtain ⟨H5, h5, _⟩ := keeps_ok (show 2000101 ≤ k by omega) hm3 (pf_reads c2 b3.reads) e g1 (fun g hg hi => hiddenV_keeps e hg hi)
      refine ⟨H5, ?_⟩
      simp only [AV.toB, Option.bind_some, Bool.not_true, cond_false, cond_true, h4, h5]
end Go.Proofs.Ytjojhbdghhmeeaa.Rp
