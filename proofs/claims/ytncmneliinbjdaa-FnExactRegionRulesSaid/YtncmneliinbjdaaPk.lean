/- Plain lemmas on rounds (Ev), on lists that are read by an index and on wrap64, for the pure statements of this seat. No conditions. -/
import Derived.Test.YtncmneliinbjdaaWMore
set_option linter.unusedSimpArgs false
set_option linter.unusedVariables false
namespace Go.Proofs.Ytncmneliinbjdaa.Pk
open Go.RowKit Go.Proofs.YtncmneliinbjdaaW.PrintWords Go.Proofs.YtncmneliinbjdaaW.PrintMore

theorem ev_pos {α : Type} {c : Prop} [Decidable c] {a b : Nat → Option α} {r : α} (h : c) (e : Ev a r) : Ev (fun k => if c then a k else b k) r := by
  obtain ⟨K, e⟩ := e
  exact ⟨K, fun k hk => (if_pos h).trans (e k hk)⟩
theorem ev_neg {α : Type} {c : Prop} [Decidable c] {a b : Nat → Option α} {r : α} (h : ¬ c) (e : Ev b r) : Ev (fun k => if c then a k else b k) r := by
  obtain ⟨K, e⟩ := e
  exact ⟨K, fun k hk => (if_neg h).trans (e k hk)⟩
theorem ev_ite {α : Type} {c : Prop} [Decidable c] {a b : Nat → Option α} {r s : α} (h : c → Ev a r) (h' : ¬ c → Ev b s) : Ev (fun k => if c then a k else b k) (if c then r else s) := by
  by_cases hc : c
  · rw [if_pos hc]; exact ev_pos hc (h hc)
  · rw [if_neg hc]; exact ev_neg hc (h' hc)
theorem ev_now {α : Type} {r s : α} (h : r = s) : Ev (fun _ => some r) s := h ▸ Ev.now r
theorem ev_const {α : Type} {o : Option α} {r : α} (h : o = some r) : Ev (fun _ => o) r := ⟨0, fun _ _ => h⟩
theorem ev_some {α β : Type} {a : α} {f : Nat → α → Option β} {r : β} (h : Ev (fun k => f k a) r) : Ev (fun k => (some a).bind (f k)) r := h
theorem ev_bindc {α β : Type} {o : Option α} {a : α} {f : Nat → α → Option β} {r : β} (ho : o = some a) (h : Ev (fun k => f k a) r) : Ev (fun k => o.bind (f k)) r := by
  subst ho; exact h
theorem ev_of_eq {α : Type} {g : Nat → Option α} {r s : α} (h : Ev g r) (e : r = s) : Ev g s := e ▸ h
theorem ev_unique {α : Type} {g : Nat → Option α} {r s : α} (h : Ev g r) (h' : Ev g s) : r = s := by
  obtain ⟨K, h⟩ := h
  obtain ⟨K', h'⟩ := h'
  have a := h (max K K') (Nat.le_max_left _ _)
  have b := h' (max K K') (Nat.le_max_right _ _)
  rw [a] at b; exact Option.some.inj b
/-- From the end of a range downwards. -/
theorem up {P : Nat → Prop} (n : Nat) (hend : P n) (hstep : ∀ i, i < n → P (i + 1) → P i) : ∀ i, i ≤ n → P i := by
  have key : ∀ d i, i ≤ n → n - i = d → P i := by
    intro d
    induction d with
    | zero =>
      intro i hi hd
      have e : i = n := by omega
      rw [e]; exact hend
    | succ d ih => intro i hi hd; exact hstep i (by omega) (ih (i + 1) (by omega) (by omega))
  exact fun i hi => key (n - i) i hi rfl
theorem w64 {n : Int} (h1 : -9223372036854775808 ≤ n) (h2 : n ≤ 9223372036854775807) : wrap64 n = n := by
  unfold wrap64; omega
theorem w64s {n : Nat} (h : n < 9223372036854775807) : wrap64 ((n : Int) + 1) = ((n + 1 : Nat) : Int) := by
  unfold wrap64; omega
theorem rd_nat (xs : List Int) (i : Nat) (h : i < xs.length) : rd xs (i : Int) = xs[i] := by
  unfold rd; simp [h]
theorem rdOf_nat {α : Type} (d : α) (xs : List α) (i : Nat) (h : i < xs.length) : rdOf d xs (i : Int) = xs[i] := by
  unfold rdOf; simp [h]
theorem rd_mem (xs : List Int) (i : Int) (h0 : 0 ≤ i) (h : i < xs.length) : rd xs i ∈ xs := by
  obtain ⟨n, rfl⟩ := Int.eq_ofNat_of_zero_le h0
  rw [rd_nat xs n (by omega)]
  exact List.getElem_mem _
theorem drop_step {α : Type} (xs : List α) (i : Nat) (h : i < xs.length) : xs.drop i = xs[i] :: xs.drop (i + 1) := List.drop_eq_getElem_cons h
theorem wf_i64 {x : Int} : (Lit.int .i64 x).wf = true ↔ -9223372036854775808 ≤ x ∧ x ≤ 9223372036854775807 := by
  simp [Lit.wf, IntKind.min, IntKind.max, IntKind.signed, IntKind.bits]
theorem wf_u8 {x : Int} : (Lit.int .u8 x).wf = true ↔ 0 ≤ x ∧ x ≤ 255 := by
  simp [Lit.wf, IntKind.min, IntKind.max, IntKind.signed, IntKind.bits]
theorem wrap_i64 (n : Int) : IntKind.i64.wrap n = wrap64 n := by
  unfold wrap64
  simp [IntKind.wrap, IntKind.bits, IntKind.signed]
  split <;> omega
theorem bv_toNat (a : Nat) (ha : a < 9223372036854775808) : (BitVec.ofInt 64 (a : Int)).toNat = a := by
  rw [BitVec.ofInt_natCast, BitVec.toNat_ofNat]; exact Nat.mod_eq_of_lt (by omega)
theorem and_nat (a b : Nat) (ha : a < 9223372036854775808) (hb : b < 9223372036854775808) : Go.bits .and .i64 (a : Int) (b : Int) = ((a &&& b : Nat) : Int) := by
  have hx : a &&& b < 2 ^ 63 := Nat.and_lt_two_pow _ (by omega)
  show IntKind.i64.wrap ((BitVec.ofInt 64 (a : Int) &&& BitVec.ofInt 64 (b : Int)).toNat : Int) = _
  rw [BitVec.toNat_and, bv_toNat a ha, bv_toNat b hb, wrap_i64, w64 (by omega) (by omega)]
theorem or_nat (a b : Nat) (ha : a < 9223372036854775808) (hb : b < 9223372036854775808) : Go.bits .or .i64 (a : Int) (b : Int) = ((a ||| b : Nat) : Int) := by
  have hx : a ||| b < 2 ^ 63 := Nat.or_lt_two_pow (by omega) (by omega)
  show IntKind.i64.wrap ((BitVec.ofInt 64 (a : Int) ||| BitVec.ofInt 64 (b : Int)).toNat : Int) = _
  rw [BitVec.toNat_or, bv_toNat a ha, bv_toNat b hb, wrap_i64, w64 (by omega) (by omega)]
theorem xor_nat (a b : Nat) (ha : a < 9223372036854775808) (hb : b < 9223372036854775808) : Go.bits .xor .i64 (a : Int) (b : Int) = ((a ^^^ b : Nat) : Int) := by
  have hx : a ^^^ b < 2 ^ 63 := Nat.xor_lt_two_pow (by omega) (by omega)
  show IntKind.i64.wrap ((BitVec.ofInt 64 (a : Int) ^^^ BitVec.ofInt 64 (b : Int)).toNat : Int) = _
  rw [BitVec.toNat_xor, bv_toNat a ha, bv_toNat b hb, wrap_i64, w64 (by omega) (by omega)]
def andn (a b : Nat) : Nat := a ^^^ (a &&& b)
theorem testBit_andn (a b i : Nat) : (andn a b).testBit i = (a.testBit i && !b.testBit i) := by
  unfold andn; rw [Nat.testBit_xor, Nat.testBit_and]; cases a.testBit i <;> cases b.testBit i <;> rfl
theorem le_of_bits {a b : Nat} (h : ∀ i, a.testBit i = true → b.testBit i = true) : a ≤ b := by
  have e : a &&& b = a := by
    apply Nat.eq_of_testBit_eq
    intro i
    rw [Nat.testBit_and]
    cases ha : a.testBit i with
    | false => rfl
    | true => rw [h i ha]; rfl
  rw [← e]; exact Nat.and_le_right
theorem andn_le (a b : Nat) : andn a b ≤ a := by
  apply le_of_bits
  intro i h; rw [testBit_andn] at h; simp at h; exact h.1
theorem bv_andn (x y : BitVec 64) : x &&& ~~~y = x ^^^ (x &&& y) := by
  apply BitVec.eq_of_getLsbD_eq
  intro i hi
  simp only [BitVec.getLsbD_and, BitVec.getLsbD_not, BitVec.getLsbD_xor, hi, decide_true, Bool.true_and]
  cases x.getLsbD i <;> cases y.getLsbD i <;> rfl
theorem andn_nat (a b : Nat) (ha : a < 9223372036854775808) (hb : b < 9223372036854775808) : Go.bits .andNot .i64 (a : Int) (b : Int) = ((andn a b : Nat) : Int) := by
  have hx := andn_le a b
  show IntKind.i64.wrap ((BitVec.ofInt 64 (a : Int) &&& ~~~BitVec.ofInt 64 (b : Int)).toNat : Int) = _
  rw [bv_andn, BitVec.toNat_xor, BitVec.toNat_and, bv_toNat a ha, bv_toNat b hb, wrap_i64]
  show wrap64 ((andn a b : Nat) : Int) = _
  rw [w64 (by omega) (by omega)]
theorem xor_nonneg (a b : Int) (ha : 0 ≤ a) (ha' : a < 9223372036854775808) (hb : 0 ≤ b) (hb' : b < 9223372036854775808) : 0 ≤ Go.bits .xor .i64 a b := by
  obtain ⟨x, rfl⟩ := Int.eq_ofNat_of_zero_le ha
  obtain ⟨y, rfl⟩ := Int.eq_ofNat_of_zero_le hb
  rw [xor_nat x y (by omega) (by omega)]; omega
theorem shl_one (v : Nat) (h : v < 32) : shl .i64 1 (v : Int) = ((2 ^ v : Nat) : Int) := by
  have hm : min ((v : Int)).toNat (IntKind.bits .i64) = v := by simp [IntKind.bits]; omega
  have h2 : 2 ^ v < 2 ^ 32 := Nat.pow_lt_pow_right (by omega) h
  unfold shl
  rw [hm, wrap_i64, Int.one_mul]
  have e : (2 : Int) ^ v = ((2 ^ v : Nat) : Int) := by rw [Int.natCast_pow]; rfl
  rw [e]
  generalize 2 ^ v = q at h2
  exact w64 (n := (q : Int)) (by omega) (by omega)
theorem shr_mod (m v : Nat) (h : v < 32) : Int.tmod (shr .i64 (m : Int) (v : Int)) 2 = if m.testBit v then 1 else 0 := by
  have hm : min ((v : Int)).toNat (IntKind.bits .i64) = v := by simp [IntKind.bits]; omega
  unfold shr
  rw [hm]
  have e : (m : Int) / 2 ^ v = ((m / 2 ^ v : Nat) : Int) := by rw [Int.natCast_ediv, Int.natCast_pow]; rfl
  rw [e, Int.tmod_eq_emod_of_nonneg (Int.natCast_nonneg _), Nat.testBit_eq_decide_div_mod_eq]
  have : m / 2 ^ v % 2 = 0 ∨ m / 2 ^ v % 2 = 1 := by omega
  rcases this with h1 | h1
  · rw [h1]; simp; omega
  · rw [h1]; simp; omega
end Go.Proofs.Ytncmneliinbjdaa.Pk
