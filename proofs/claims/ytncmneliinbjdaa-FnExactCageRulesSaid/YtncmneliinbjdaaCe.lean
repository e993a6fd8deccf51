/- Squares: whether a value stands twice in a line; both sides say the same. No conditions. -/
import Derived.Test.YtncmneliinbjdaaCd
set_option linter.unusedVariables false
set_option linter.unusedSimpArgs false
namespace Go.Proofs.Ytncmneliinbjdaa.Rp
open Go Go.RowKit Go.Proofs.Ytncmneliinbjdaa.Ab

/-- The value of a cell. -/
def gv (g : List Int) (c : Int) : Int := g.getD c.toNat 0
def clashL (g : List Int) : List Int → List Int → Bool
  | [], _ => false
  | c :: cs, seen => (decide (0 < gv g c) && seen.contains (gv g c)) || clashL g cs (gv g c :: seen)
def clashFrom (g : List Int) (n : Int) : Nat → Nat → Bool
  | _, 0 => false
  | line, j + 1 => clashL g (lineCells n line) [] || clashFrom g n (line + 1) j
def clash (g : List Int) (n : Int) : Bool := clashFrom g n 0 (2 * n).toNat
def squareFits (g : List Int) (n : Int) : Bool := gridOk g n && !clash g n
def squareSolved (g : List Int) (n : Int) : Bool := squareFits g n && decide ((filled g : Int) = n * n)

theorem lineCells_mem {n line c : Int} (h : c ∈ lineCells n line) : 0 ≤ c ∧ c < n * n := by
  unfold lineCells at h
  split at h
  · rename_i hc
    obtain ⟨i, hi, rfl⟩ := List.mem_map.1 h
    have hi' := List.mem_range.1 hi
    have : n = 2 ∨ n = 3 ∨ n = 4 := by omega
    unfold lineCell
    rcases this with rfl | rfl | rfl <;> split <;> omega
  · simp at h
theorem lineCells_len (n line : Int) : (lineCells n line).length ≤ 4 := by
  unfold lineCells
  split
  · simp; omega
  · simp
theorem gv_at {H : Hp} {s : Sl} {g : List Int} (hr : Reads .i64 H s g) {c : Int} (h0 : 0 ≤ c) (h1 : c < (g.length : Int)) : ldI .i64 H s.blk (s.off + c.toNat) = some (gv g c) := by
  have h2 : c.toNat < g.length := by omega
  rw [reads_at hr c.toNat h2]
  simp [gv, List.getD_eq_getElem?_getD, h2]
theorem gv_mem {g : List Int} {c : Int} (h0 : 0 ≤ c) (h1 : c < (g.length : Int)) : gv g c ∈ g := by
  have h2 : c.toNat < g.length := by omega
  unfold gv
  rw [List.getD_eq_getElem?_getD, List.getElem?_eq_getElem h2]
  exact List.getElem_mem h2

theorem mask_or : ∀ m, m < 32 → ∀ v, v < 5 → IntKind.i64.wrap (((BitVec.ofInt IntKind.i64.bits ((m : Nat) : Int) ||| BitVec.ofInt IntKind.i64.bits (IntKind.i64.wrap (1 * 2 ^ (min v IntKind.i64.bits)))).toNat : Int)) = ((m ||| 2 ^ v : Nat) : Int) ∧ m ||| 2 ^ v < 32 := by decide +kernel
theorem mask_bit : ∀ m, m < 32 → ∀ v, v < 5 → (((((m : Nat) : Int).fdiv (2 ^ (min v IntKind.i64.bits)) : Int).tmod 2) == 1) = m.testBit v := by decide +kernel
theorem mask_test : ∀ m, m < 32 → ∀ v, v < 5 → ∀ w, w < 5 → (m ||| 2 ^ v).testBit w = (decide (w = v) || m.testBit w) := by decide +kernel

theorem specl2Clash_l1 (rec : Rec) (k : Nat) (L0 : Sl → Int → Int → Hp → An) {H : Hp} {s t : Sl} {g cells : List Int} {n line : Int} (hs : Reads .i64 H s g) (ht : Reads .i64 H t cells)
    (hc : ∀ c ∈ cells, 0 ≤ c ∧ c < (g.length : Int)) (hg : ∀ v ∈ g, 0 ≤ v ∧ v ≤ 4) (hl : cells.length ≤ 1000) (hline : IntKind.i64.wrap (line + 1) = line + 1) :
    ∀ (j i fuel m : Nat) (seen : List Int), i + j = cells.length → j < fuel → m < 32 → (∀ v : Nat, v < 5 → m.testBit v = seen.contains (v : Int)) →
      spec_l2Clash.l1 rec k L0 fuel s n line t m i H = bif clashL g (cells.drop i) seen then some (.bool true, H) else L0 s n (line + 1) H := by
  intro j
  induction j with
  | zero =>
    intro i fuel m seen hi hf hm hse
    obtain ⟨fuel, rfl⟩ : ∃ q, fuel = q + 1 := ⟨fuel - 1, by omega⟩
    simp [spec_l2Clash.l1, spec_l2Clash.j3, ht.len, show ¬ i < cells.length by omega, List.drop_eq_nil_of_le (show cells.length ≤ i by omega), clashL, hline]
  | succ j ih =>
    intro i fuel m seen hi hf hm hse
    obtain ⟨fuel, rfl⟩ : ∃ q, fuel = q + 1 := ⟨fuel - 1, by omega⟩
    have h1 := ht.len
    have h2 : i < cells.length := by omega
    have h3 := reads_at ht i h2
    have h4 := wrs (i := i) (by omega)
    obtain ⟨c0, c1⟩ := hc _ (List.getElem_mem h2)
    have h5 := gv_at hs c0 c1
    obtain ⟨v0, v1⟩ := hg _ (gv_mem c0 c1)
    rw [List.drop_eq_getElem_cons h2]
    simp only [clashL]
    obtain ⟨v, hv⟩ := Int.eq_ofNat_of_zero_le v0
    rw [hv] at h5 ⊢
    have hv5 : v < 5 := by omega
    obtain ⟨o1, o2⟩ := mask_or m hm v hv5
    have hb := mask_bit m hm v hv5
    rw [hse v hv5] at hb
    have hsl := hs.len
    have h6 := ih (i + 1) fuel (m ||| 2 ^ v) ((v : Int) :: seen) (by omega) (by omega) o2 (fun w hw => by
      rw [mask_test m hm v hv5 w hw, hse w hw, List.contains_cons]
      congr 1
      simp only [Bool.beq_eq_decide_eq]
      exact decide_eq_decide.2 (by omega))
    have q1 : ((i : Int) < (t.len : Int)) := by omega
    have q0 : (0 : Int) ≤ (i : Int) := by omega
    have z0 : ¬ ((v : Int) < 0) := by omega
    have c1' : cells[i] < (s.len : Int) := by omega
    rw [show ((i : Int) + 1) = ((i + 1 : Nat) : Int) by omega] at h4
    by_cases hp : 0 < v
    · have z1 : ((v : Int) > 0) := by omega
      have z2 : (0 : Int) < (v : Int) := z1
      cases hse' : seen.contains (v : Int) with
      | true =>
        rw [hse'] at hb
        simp only [spec_l2Clash.l1, spec_l2Clash.j2, spec_l2Clash.j4, spec_l2Clash.j5, q0, q1, c0, c1', z0, z1, z2, decide_true, Bool.and_self, cond_true, cond_false, Int.toNat_natCast, Nat.mul_one, h3, h5, Option.bind_some, hb, if_false, reduceIte, Bool.true_or]
      | false =>
        rw [hse'] at hb
        rw [show ((i + 1 : Nat) : Int) = (i : Int) + 1 by omega] at h4 h6
        simp only [spec_l2Clash.l1, spec_l2Clash.j2, spec_l2Clash.j4, spec_l2Clash.j5, q0, q1, c0, c1', z0, z1, z2, decide_true, Bool.and_self, Bool.and_false, cond_true, cond_false, Int.toNat_natCast, Nat.mul_one, h3, h5, Option.bind_some, hb, if_false, reduceIte, Bool.false_or, o1, h4, h6]
    · have z1 : ¬ ((v : Int) > 0) := by omega
      have z2 : ¬ (0 : Int) < (v : Int) := z1
      rw [show ((i + 1 : Nat) : Int) = (i : Int) + 1 by omega] at h4 h6
      simp only [spec_l2Clash.l1, spec_l2Clash.j2, spec_l2Clash.j4, spec_l2Clash.j5, q0, q1, c0, c1', z0, z1, z2, decide_true, decide_false, Bool.and_self, Bool.false_and, cond_true, cond_false, Int.toNat_natCast, Nat.mul_one, h3, h5, Option.bind_some, if_false, reduceIte, Bool.false_or, o1, h4, h6]

theorem specl2Clash_l0 {k : Nat} (hk : 2000000 ≤ k) {H0 : Hp} {s : Sl} {g : List Int} {n : Int} (hs : Reads .i64 H0 s g) (hg : gridOk g n = true) :
    ∀ (j fuel line : Nat) (H : Hp), (line : Int) + j = 2 * n → j < fuel → H0 <+: H →
      ∃ H', spec_l2Clash.l0 (callF PP orc k) k fuel s n line H = some (.bool (clashFrom g n line j), H') ∧ H0 <+: H' := by
  obtain ⟨⟨n1, n2⟩, n3, n4⟩ := (gridOk_iff g n).1 hg
  have hw : IntKind.i64.wrap (2 * n) = 2 * n := wr (by omega) (by omega)
  intro j
  induction j with
  | zero =>
    intro fuel line H hl hf hp
    obtain ⟨fuel, rfl⟩ : ∃ q, fuel = q + 1 := ⟨fuel - 1, by omega⟩
    refine ⟨H, ?_, hp⟩
    have : ¬ ((line : Int) < 2 * n) := by omega
    simp only [spec_l2Clash.l0, hw, this, decide_false, cond_false, clashFrom]
  | succ j ih =>
    intro fuel line H hl hf hp
    obtain ⟨fuel, rfl⟩ : ∃ q, fuel = q + 1 := ⟨fuel - 1, by omega⟩
    have q1 : ((line : Int) < 2 * n) := by omega
    obtain ⟨t, H1, a1, a2, a3⟩ := specLineCells_ok hk n line H
    have h1 := specl2Clash_l1 (callF PP orc k) k (spec_l2Clash.l0 (callF PP orc k) k fuel) (line := line) (n := n) (pf_reads (hp.trans a2) hs) a3 (fun c hc => by rw [n3]; exact lineCells_mem hc) (fun v hv => ⟨(n4 v hv).1, by have := (n4 v hv).2; omega⟩)
      (by have := lineCells_len n line; omega) (wr (by omega) (by omega)) (lineCells n line).length 0 k 0 [] (by omega) (by have := lineCells_len n line; omega) (by omega) (fun v hv => by simp)
    obtain ⟨H', b1, b2⟩ := ih fuel (line + 1) H1 (by omega) (by omega) (hp.trans a2)
    push_cast at b1
    simp only [List.drop_zero] at h1
    cases hc : clashL g (lineCells n line) [] with
    | true =>
      refine ⟨H1, ?_, hp.trans a2⟩
      simp only [hc, cond_true] at h1
      simp only [spec_l2Clash.l0, hw, q1, decide_true, cond_true, a1, Option.bind_some, AV.toS, if_true, clashFrom, hc, Bool.true_or]
      exact h1
    | false =>
      refine ⟨H', ?_, b2⟩
      simp only [hc, cond_false] at h1
      simp only [spec_l2Clash.l0, hw, q1, decide_true, cond_true, a1, Option.bind_some, AV.toS, if_true, clashFrom, hc, Bool.false_or]
      exact h1.trans b1

theorem specl2Clash_ok {k : Nat} (hk : 2000001 ≤ k) {H : Hp} {s : Sl} {g : List Int} {n : Int} (hs : Reads .i64 H s g) (hg : gridOk g n = true) :
    ∃ H', callF PP orc k spec_l2Clash.id [.sl 1 s, .int .i64 n] H = some (.bool (clash g n), H') ∧ H <+: H' := by
  obtain ⟨k, rfl⟩ : ∃ m, k = m + 1 := ⟨k - 1, by omega⟩
  rw [spec_l2Clash.call]
  obtain ⟨⟨n1, n2⟩, n3, n4⟩ := (gridOk_iff g n).1 hg
  exact specl2Clash_l0 (by omega) hs hg (2 * n).toNat k 0 H (by omega) (by omega) (List.prefix_refl _)

theorem specSquareFits_ok {k : Nat} (hk : 2000002 ≤ k) {H : Hp} {s : Sl} {g : List Int} (n : Int) (hs : Reads .i64 H s g) (hl : g.length ≤ 1048576) :
    ∃ H', callF PP orc k spec_SquareFits.id [.sl 1 s, .int .i64 n] H = some (.bool (squareFits g n), H') ∧ H <+: H' := by
  obtain ⟨k, rfl⟩ : ∃ m, k = m + 1 := ⟨k - 1, by omega⟩
  rw [spec_SquareFits.call]
  have h1 := specGridValid_ok (show 2000000 ≤ k by omega) hs hl n
  cases hg : gridOk g n with
  | true =>
    obtain ⟨H', a1, a2⟩ := specl2Clash_ok (show 2000001 ≤ k by omega) hs hg
    exact ⟨H', by simp only [spec_SquareFits.f, h1, hg, Option.bind_some, AV.toB, cond_true, a1, squareFits, Bool.true_and], a2⟩
  | false => exact ⟨H, by simp only [spec_SquareFits.f, h1, hg, Option.bind_some, AV.toB, cond_false, squareFits, Bool.false_and], List.prefix_refl _⟩

end Go.Proofs.Ytncmneliinbjdaa.Rp
