/- SumMust: what must be is in every set; what must be among the digits that are left out is what cannot be; at every drawn sum. No conditions. -/
import Derived.Test.YtinockknikfmgaaPFnSumMustx3
import Derived.Test.YtinockknikfmgaaMo
import Derived.Test.YtinockknikfmgaaSum
set_option linter.unusedSimpArgs false
set_option linter.unusedVariables false
set_option maxRecDepth 4000
namespace Go.Proofs.Ytinockknikfmgaa.Pure
open Go.RowKit Go.Proofs.Ytinockknikfmgaa.PFnSumMust Go.Proofs.Ytinockknikfmgaa.Pk Go.Proofs.Ytinockknikfmgaa.Mo Go.Proofs.YtinockknikfmgaaW.PrintWords Go.Proofs.YtinockknikfmgaaW.PrintLast

namespace XFnSumMust
theorem impl_sizeOk_eq (s : Int) : impl_sizeOk.f s = some (decide (Mo.SizeOk s)) := by
  unfold impl_sizeOk.f Mo.SizeOk
  by_cases h : s ≥ 2
  · rw [if_pos h]; simp [show (2 : Int) ≤ s from h]
  · rw [if_neg h]; simp [show ¬ (2 : Int) ≤ s from h]
theorem spec_l1In_eq (n lo hi : Int) : spec_l1In.f n lo hi = some (decide (lo ≤ n ∧ n ≤ hi)) := by
  unfold spec_l1In.f
  by_cases h : n ≥ lo
  · rw [if_pos h]; simp [show lo ≤ n from h]
  · rw [if_neg h]; simp [show ¬ lo ≤ n from h]
theorem laws_alive_ev : Ev (fun k => laws_alive.f k) true := Ev.of laws_alive.mono (k := 12) (by decide +kernel)
/-- A code, as the reader of draws takes it. -/
def Bytes (b : List Int) : Prop := b.length ≤ 2000 ∧ ∀ x ∈ b, 0 ≤ x ∧ x ≤ 255
theorem spec_l20Open_ev (l : List Int) (hw : ∀ x ∈ l, (Lit.int .u8 x).wf = true) : ∃ b, spec_l20Open.f l = some (b, 0) ∧ Bytes b := by
  unfold spec_l20Open.f
  by_cases h : (l.length : Int) > 2000
  · refine ⟨l.take 2000, ?_, ?_, fun x hx => wf_u8.1 (hw x (List.mem_of_mem_take hx))⟩
    · rw [if_pos h, if_pos (by omega)]
    · simp; omega
  · exact ⟨l, by rw [if_neg h], by omega, fun x hx => wf_u8.1 (hw x hx)⟩
theorem spec_l20Rd_pick_ev (b : List Int) (p n : Int) (hb : Bytes b) (h0 : 0 ≤ p) (hp : p ≤ 1000000000) (hn : n ≤ 1000000000) :
    ∃ r, Ev (fun k => spec_l20Rd_pick.f k b p n) (r, p + 1) ∧ 0 ≤ r ∧ (1 ≤ n → r < n) ∧ (n < 1 → r = 0) := by
  unfold spec_l20Rd_pick.f
  rw [w64 (n := p + 1) (by omega) (by omega)]
  by_cases hn1 : n < 1
  · refine ⟨0, ev_pos hn1 (Ev.step (fun _ => rfl) ?_), by omega, by omega, fun _ => rfl⟩
    simp only [spec_l20Rd_pick.j0]
    exact ev_pos trivial (ev_now rfl)
  · by_cases hl : b.length = 0
    · refine ⟨0, ev_neg hn1 (Ev.step (fun _ => rfl) ?_), by omega, by omega, by omega⟩
      simp only [spec_l20Rd_pick.j0]
      exact ev_pos (by simp [hl]) (ev_now rfl)
    · have hmem : ∀ i : Int, 0 ≤ i → i < b.length → 0 ≤ rd b i ∧ rd b i ≤ 255 := fun i h h' => hb.2 _ (rd_mem b i h h')
      have hne : ¬ (((b.length : Int) == 0) = true) := fun h => hl (by have := eq_of_beq h; omega)
      have hp1 : wrap64 (p + 1 - 1) = p := by rw [w64 (by omega) (by omega)]; omega
      by_cases hk : p < b.length
      · have hr := hmem p h0 hk
        refine ⟨Int.tmod (wrap64 (rd b p)) n, ev_neg hn1 (Ev.step (fun _ => rfl) ?_), ?_, ?_, by omega⟩
        · simp only [spec_l20Rd_pick.j0]
          rw [hp1]
          exact ev_neg hne (ev_pos hk (ev_pos h0 (ev_neg (by omega) (ev_now rfl))))
        · rw [w64 (by omega) (by omega), Int.tmod_eq_emod_of_nonneg (by omega)]; exact Int.emod_nonneg _ (by omega)
        · intro _; rw [w64 (by omega) (by omega), Int.tmod_eq_emod_of_nonneg (by omega)]; exact Int.emod_lt_of_pos _ (by omega)
      · have hL : (0 : Int) < b.length := by omega
        have e7 : wrap64 (wrap64 (p * 7) + 3) = p * 7 + 3 := by rw [w64 (n := p * 7) (by omega) (by omega), w64 (by omega) (by omega)]
        have m1 : Int.tmod p b.length = p % b.length := Int.tmod_eq_emod_of_nonneg h0
        have m2 : Int.tmod (p * 7 + 3) b.length = (p * 7 + 3) % b.length := Int.tmod_eq_emod_of_nonneg (by omega)
        have a1 := Int.emod_nonneg p (b := (b.length : Int)) (by omega)
        have a2 := Int.emod_lt_of_pos p hL
        have b1 := Int.emod_nonneg (p * 7 + 3) (b := (b.length : Int)) (by omega)
        have b2 := Int.emod_lt_of_pos (p * 7 + 3) hL
        have r1 := hmem _ a1 a2
        have r2 := hmem _ b1 b2
        have d0 : 0 ≤ Int.tdiv p b.length := by rw [Int.tdiv_eq_ediv_of_nonneg h0]; exact Int.ediv_nonneg h0 (by omega)
        have d1 : Int.tdiv p b.length ≤ p := by rw [Int.tdiv_eq_ediv_of_nonneg h0]; exact Int.ediv_le_self _ h0
        generalize hx : wrap64 (wrap64 (wrap64 (wrap64 (wrap64 (rd b (p % b.length)) * 131) + wrap64 (wrap64 (rd b ((p * 7 + 3) % b.length)) * 1117)) + wrap64 (p * 29)) + wrap64 (wrap64 (Int.tdiv p b.length) * 53)) = x
        have hx0 : 0 ≤ x ∧ x ≤ 100000000000 := by
          rw [← hx]
          rw [w64 (n := rd b (p % b.length)) (by omega) (by omega), w64 (n := rd b ((p * 7 + 3) % b.length)) (by omega) (by omega), w64 (n := Int.tdiv p b.length) (by omega) (by omega)]
          rw [w64 (n := rd b (p % b.length) * 131) (by omega) (by omega), w64 (n := rd b ((p * 7 + 3) % b.length) * 1117) (by omega) (by omega), w64 (n := p * 29) (by omega) (by omega), w64 (n := Int.tdiv p b.length * 53) (by omega) (by omega)]
          rw [w64 (n := rd b (p % b.length) * 131 + rd b ((p * 7 + 3) % b.length) * 1117) (by omega) (by omega)]
          rw [w64 (n := rd b (p % b.length) * 131 + rd b ((p * 7 + 3) % b.length) * 1117 + p * 29) (by omega) (by omega)]
          rw [w64 (by omega) (by omega)]
          omega
        have hq : wrap64 (Int.tdiv x 64) = x / 64 := by rw [Int.tdiv_eq_ediv_of_nonneg hx0.1, w64 (by omega) (by omega)]
        have hz : 0 ≤ Go.bits .xor .i64 x (x / 64) := xor_nonneg _ _ (by omega) (by omega) (by omega) (by omega)
        refine ⟨Int.tmod (Go.bits .xor .i64 x (x / 64)) n, ev_neg hn1 (Ev.step (fun _ => rfl) ?_), ?_, ?_, by omega⟩
        · simp only [spec_l20Rd_pick.j0]
          rw [hp1, e7, m1, m2, hx, hq]
          exact ev_neg hne (ev_neg hk (ev_neg (by omega) (ev_pos a1 (ev_pos a2 (ev_pos b1 (ev_pos b2 (ev_neg (by omega) (ev_now rfl))))))))
        · rw [Int.tmod_eq_emod_of_nonneg hz]; exact Int.emod_nonneg _ (by omega)
        · intro _; rw [Int.tmod_eq_emod_of_nonneg hz]; exact Int.emod_lt_of_pos _ (by omega)
def o1 (a : Int) : Int := IntKind.u64.wrap ((Go.bits .and .u64 (a / 2) 6148914691236517205) + (Go.bits .and .u64 a 6148914691236517205))
def o2 (a : Int) : Int := IntKind.u64.wrap ((Go.bits .and .u64 (a / 4) 3689348814741910323) + (Go.bits .and .u64 a 3689348814741910323))
def o3 (a : Int) : Int := Go.bits .and .u64 (IntKind.u64.wrap ((a / 16) + a)) 1085102592571150095
def o4 (a : Int) : Int := IntKind.u64.wrap (a + (a / 256))
def o5 (a : Int) : Int := IntKind.u64.wrap (a + (a / 65536))
def o6 (a : Int) : Int := IntKind.u64.wrap (a + (a / 4294967296))
theorem ones_eq (a : Int) : bits_OnesCount.f a = some (Go.bits .and .i64 (wrap64 (o6 (o5 (o4 (o3 (o2 (o1 a))))))) 127) := rfl
def p1 (a : Nat) : Nat := (((a / 2) &&& 6148914691236517205) + (a &&& 6148914691236517205)) % 18446744073709551616
def p2 (a : Nat) : Nat := (((a / 4) &&& 3689348814741910323) + (a &&& 3689348814741910323)) % 18446744073709551616
def p3 (a : Nat) : Nat := (((a / 16) + a) % 18446744073709551616) &&& 1085102592571150095
def p4 (a : Nat) : Nat := (a + (a / 256)) % 18446744073709551616
def p5 (a : Nat) : Nat := (a + (a / 65536)) % 18446744073709551616
def p6 (a : Nat) : Nat := (a + (a / 4294967296)) % 18446744073709551616
theorem wrap_u64 (n : Nat) : IntKind.u64.wrap ((n : Nat) : Int) = ((n % 18446744073709551616 : Nat) : Int) := by
  simp [IntKind.wrap, IntKind.bits, IntKind.signed]
theorem bv_u64 (a : Nat) (ha : a < 18446744073709551616) : (BitVec.ofInt 64 (a : Int)).toNat = a := by
  rw [BitVec.ofInt_natCast, BitVec.toNat_ofNat]; exact Nat.mod_eq_of_lt (by omega)
theorem and_u64 (a b : Nat) (ha : a < 18446744073709551616) (hb : b < 18446744073709551616) : Go.bits .and .u64 (a : Int) (b : Int) = ((a &&& b : Nat) : Int) := by
  have hx : a &&& b < 2 ^ 64 := Nat.and_lt_two_pow _ (by omega)
  show IntKind.u64.wrap ((BitVec.ofInt 64 (a : Int) &&& BitVec.ofInt 64 (b : Int)).toNat : Int) = _
  rw [BitVec.toNat_and, bv_u64 a ha, bv_u64 b hb, wrap_u64, Nat.mod_eq_of_lt (by omega)]
theorem o1_nat (a : Nat) (h : a < 18446744073709551616) : o1 a = (p1 a : Nat) := by
  unfold o1 p1
  have e1 : ((a : Int) / 2) = ((a / 2 : Nat) : Int) := by omega
  have h1 := and_u64 (a / 2) 6148914691236517205 (by omega) (by omega)
  have h2 := and_u64 a 6148914691236517205 h (by omega)
  rw [e1, show (6148914691236517205 : Int) = ((6148914691236517205 : Nat) : Int) from rfl, h1, h2, ← Int.natCast_add, wrap_u64]
theorem o2_nat (a : Nat) (h : a < 18446744073709551616) : o2 a = (p2 a : Nat) := by
  unfold o2 p2
  have e1 : ((a : Int) / 4) = ((a / 4 : Nat) : Int) := by omega
  have h1 := and_u64 (a / 4) 3689348814741910323 (by omega) (by omega)
  have h2 := and_u64 a 3689348814741910323 h (by omega)
  rw [e1, show (3689348814741910323 : Int) = ((3689348814741910323 : Nat) : Int) from rfl, h1, h2, ← Int.natCast_add, wrap_u64]
theorem o3_nat (a : Nat) (h : a < 18446744073709551616) : o3 a = (p3 a : Nat) := by
  unfold o3 p3
  have e1 : ((a : Int) / 16 + a) = ((a / 16 + a : Nat) : Int) := by omega
  rw [e1, wrap_u64]
  exact and_u64 _ 1085102592571150095 (by omega) (by omega)
theorem o4_nat (a : Nat) : o4 a = (p4 a : Nat) := by
  unfold o4 p4
  have e1 : ((a : Int) + (a : Int) / 256) = ((a + a / 256 : Nat) : Int) := by omega
  rw [e1, wrap_u64]
theorem o5_nat (a : Nat) : o5 a = (p5 a : Nat) := by
  unfold o5 p5
  have e1 : ((a : Int) + (a : Int) / 65536) = ((a + a / 65536 : Nat) : Int) := by omega
  rw [e1, wrap_u64]
theorem o6_nat (a : Nat) : o6 a = (p6 a : Nat) := by
  unfold o6 p6
  have e1 : ((a : Int) + (a : Int) / 4294967296) = ((a + a / 4294967296 : Nat) : Int) := by omega
  rw [e1, wrap_u64]
def pop (a : Nat) : Nat := p6 (p5 (p4 (p3 (p2 (p1 a)))))
/-- OnesCount of a number whose last stage is small. -/
theorem ones_nat (a : Nat) (h : a < 18446744073709551616) (hp : pop a < 9223372036854775808) : bits_OnesCount.f (IntKind.u64.wrap (a : Int)) = some ((pop a &&& 127 : Nat) : Int) := by
  have h1 : p1 a < 18446744073709551616 := Nat.mod_lt _ (by omega)
  have h2 : p2 (p1 a) < 18446744073709551616 := Nat.mod_lt _ (by omega)
  rw [wrap_u64, Nat.mod_eq_of_lt h, ones_eq, o1_nat a h, o2_nat _ h1, o3_nat _ h2, o4_nat, o5_nat, o6_nat]
  show some (Go.bits .and .i64 (wrap64 ((pop a : Nat) : Int)) 127) = _
  rw [w64 (by omega) (by omega)]
  exact congrArg some (and_nat (pop a) 127 hp (by omega))
theorem pop_set : ∀ i, i < 512 → pop (2 * i) &&& 127 = Mo.dcnt (2 * i) 9 1 ∧ pop (2 * i) < 9223372036854775808 := by decide +kernel
theorem count_set (i : Nat) (hi : i < 512) : bits_OnesCount.f (IntKind.u64.wrap ((2 * i : Nat) : Int)) = some ((Mo.dcnt (2 * i) 9 1 : Nat) : Int) := by
  obtain ⟨h1, h2⟩ := pop_set i hi
  rw [ones_nat (2 * i) (by omega) h2, h1]
theorem shr_nat (x d : Nat) (hd : d < 10) : shr .i64 (x : Int) (d : Int) = ((x / 2 ^ d : Nat) : Int) := by
  have h : min ((d : Int)).toNat (IntKind.bits .i64) = d := by simp [IntKind.bits]; omega
  unfold shr
  rw [h, Int.natCast_ediv, Int.natCast_pow]; rfl
theorem digit_set (i : Nat) (hi : i < 512) (d : Nat) (hd : d < 10) : Go.bits .and .i64 (shr .i64 ((2 * i : Nat) : Int) ((d : Nat) : Int)) 1 = (((2 * i) / 2 ^ d % 2 : Nat) : Int) := by
  have h : (2 * i) / 2 ^ d ≤ 2 * i := Nat.div_le_self _ _
  rw [shr_nat _ d hd]
  have := and_nat ((2 * i) / 2 ^ d) 1 (by omega) (by omega)
  rw [Nat.and_one_is_mod] at this
  exact this
theorem digit_mod (i : Nat) (hi : i < 512) (d : Nat) (hd : d < 10) : Int.tmod (shr .i64 ((2 * i : Nat) : Int) ((d : Nat) : Int)) 2 = (((2 * i) / 2 ^ d % 2 : Nat) : Int) := by
  rw [shr_nat _ d hd, Int.tmod_eq_emod_of_nonneg (Int.natCast_nonneg _)]; omega
theorem setsN_step (s m : Int) (i : Nat) (hi : i < 512) (acc : List Int) (l : List Nat) (hl : l = (List.range' i (512 - i)).map (2 * ·)) :
    acc ++ Mo.ints (l.filter (Mo.isSet s m)) = (if Mo.isSet s m (2 * i) = true then acc ++ [((2 * i : Nat) : Int)] else acc) ++ Mo.ints (((List.range' (i + 1) (512 - (i + 1))).map (2 * ·)).filter (Mo.isSet s m)) := by
  obtain ⟨n, hn⟩ : ∃ n, 512 - i = n + 1 := ⟨512 - i - 1, by omega⟩
  have hn' : 512 - (i + 1) = n := by omega
  rw [hl, hn, hn', List.range'_succ, List.map_cons, List.filter_cons]
  split
  · simp [Mo.ints]
  · rfl
theorem rest_all (s m : Int) : Mo.ints (((List.range' 0 512).map (2 * ·)).filter (Mo.isSet s m)) = Mo.ints (Mo.setsN s m) := by
  unfold Mo.setsN; rw [List.range_eq_range']
set_option maxHeartbeats 2000000 in
theorem impl_SumSets_ev (s m : Int) : Ev (fun k => impl_SumSets.f k s m) (if 0 ≤ s ∧ s ≤ 45 ∧ 0 ≤ m ∧ m ≤ 9 then Mo.ints (Mo.setsN s m) else []) := by
  have key : ∀ i, i ≤ 512 → ∀ acc : List Int, acc.length ≤ i → Ev (fun k => impl_SumSets.l0 k s m acc ((2 * i : Nat) : Int)) (acc ++ Mo.ints (((List.range' i (512 - i)).map (2 * ·)).filter (Mo.isSet s m))) := by
    refine up 512 ?_ ?_
    · intro acc _
      refine Ev.step (fun _ => rfl) ?_
      simp only [impl_SumSets.l0]
      refine ev_neg (by omega) (ev_now ?_)
      simp [Mo.ints]
    · intro i hi ih acc ha
      have e2 : wrap64 (((2 * i : Nat) : Int) + 2) = ((2 * (i + 1) : Nat) : Int) := by rw [w64 (by omega) (by omega)]; omega
      have inner : ∀ d, d ≤ 10 → 1 ≤ d → ∀ n : Nat, n + Mo.dsum (2 * i) (10 - d) d = Mo.dsum (2 * i) 9 1 → Ev (fun k => impl_SumSets.l1 k s m acc ((2 * i : Nat) : Int) (n : Int) (d : Int)) (acc ++ Mo.ints (((List.range' i (512 - i)).map (2 * ·)).filter (Mo.isSet s m))) := by
        refine up 10 ?_ ?_
        · intro _ n hn
          have hn : n = Mo.dsum (2 * i) 9 1 := by simpa [Mo.dsum] using hn
          refine Ev.step (fun _ => rfl) ?_
          simp only [impl_SumSets.l1]
          refine ev_neg (by omega) ?_
          rw [setsN_step s m i hi acc _ rfl, e2]
          by_cases h1 : (n : Int) = s
          · refine ev_pos h1 (ev_bindc (count_set i hi) ?_)
            by_cases h2 : ((Mo.dcnt (2 * i) 9 1 : Nat) : Int) = m
            · have hs : Mo.isSet s m (2 * i) = true := by simp [Mo.isSet, ← hn, h1, h2]
              rw [if_pos hs]
              exact ev_pos h2 (ev_pos (by omega) (ih _ (by simp; omega)))
            · have hs : ¬ Mo.isSet s m (2 * i) = true := by simp [Mo.isSet, h2]
              rw [if_neg hs]
              exact ev_neg h2 (ih _ (by omega))
          · have hs : ¬ Mo.isSet s m (2 * i) = true := by simp [Mo.isSet, ← hn, h1]
            rw [if_neg hs]
            exact ev_neg h1 (ih _ (by omega))
        · intro d hd ihd h1 n hn
          have hb : (2 * i) / 2 ^ d % 2 ≤ 1 := by omega
          have hm : d * ((2 * i) / 2 ^ d % 2) ≤ 9 := by
            have : d * ((2 * i) / 2 ^ d % 2) ≤ 9 * 1 := Nat.mul_le_mul (by omega) hb
            omega
          have hn9 : Mo.dsum (2 * i) 9 1 ≤ 45 := by have := Mo.dsum_other i hi; omega
          refine Ev.step (fun _ => rfl) ?_
          simp only [impl_SumSets.l1]
          refine ev_pos (by omega) (ev_pos (by omega) ?_)
          rw [digit_set i hi d hd, w64s (by omega)]
          have e1 : wrap64 ((d : Int) * (((2 * i) / 2 ^ d % 2 : Nat) : Int)) = ((d * ((2 * i) / 2 ^ d % 2) : Nat) : Int) := by
            rw [← Int.natCast_mul, w64 (by omega) (by omega)]
          rw [e1]
          obtain ⟨r, hr⟩ : ∃ r, 10 - d = r + 1 := ⟨10 - d - 1, by omega⟩
          have hr' : 10 - (d + 1) = r := by omega
          rw [hr, Mo.dsum] at hn
          have e3 : wrap64 ((n : Int) + ((d * ((2 * i) / 2 ^ d % 2) : Nat) : Int)) = ((n + d * ((2 * i) / 2 ^ d % 2) : Nat) : Int) := by
            rw [w64 (by omega) (by omega)]; omega
          rw [e3]
          exact ihd (by omega) _ (by rw [hr']; omega)
      refine Ev.step (fun _ => rfl) ?_
      simp only [impl_SumSets.l0]
      exact ev_pos (by omega) (by simpa using inner 1 (by omega) (by omega) 0 (by simp))
  have all := key 0 (by omega) [] (by simp)
  have hgood : Ev (fun k => impl_SumSets.l0 k s m [] 0) (Mo.ints (Mo.setsN s m)) := by
    have h0 := rest_all s m
    simp only [List.nil_append, Nat.sub_zero] at all
    rw [h0] at all
    simpa using all
  unfold impl_SumSets.f
  by_cases h1 : s < 0
  · rw [if_neg (by omega)]
    refine ev_pos h1 (Ev.step (fun _ => rfl) ?_)
    simp only [impl_SumSets.j0]; exact ev_pos trivial (ev_now rfl)
  refine ev_neg h1 ?_
  by_cases h2 : s > 45
  · rw [if_neg (by omega)]
    refine ev_pos h2 (Ev.step (fun _ => rfl) ?_)
    simp only [impl_SumSets.j0]; exact ev_pos trivial (ev_now rfl)
  refine ev_neg h2 ?_
  by_cases h3 : m < 0
  · rw [if_neg (by omega)]
    refine ev_pos h3 (Ev.step (fun _ => rfl) ?_)
    simp only [impl_SumSets.j0]; exact ev_pos trivial (ev_now rfl)
  refine ev_neg h3 (Ev.step (fun _ => rfl) ?_)
  simp only [impl_SumSets.j0]
  by_cases h4 : m > 9
  · rw [if_neg (by omega)]
    exact ev_pos (by simpa using h4) (ev_now rfl)
  · rw [if_pos (by omega)]
    exact ev_neg (by simpa using h4) hgood
set_option maxHeartbeats 2000000 in
theorem spec_l16Masks_ev (s m : Int) : Ev (fun k => spec_l16Masks.f k s m) (Mo.ints (Mo.setsN s m)) := by
  have key : ∀ i, i ≤ 512 → ∀ acc : List Int, acc.length ≤ i → Ev (fun k => spec_l16Masks.l0 k s m acc ((2 * i : Nat) : Int)) (acc ++ Mo.ints (((List.range' i (512 - i)).map (2 * ·)).filter (Mo.isSet s m))) := by
    refine up 512 ?_ ?_
    · intro acc _
      refine Ev.step (fun _ => rfl) ?_
      simp only [spec_l16Masks.l0]
      refine ev_neg (by omega) (ev_now ?_)
      simp [Mo.ints]
    · intro i hi ih acc ha
      have e2 : wrap64 (((2 * i : Nat) : Int) + 2) = ((2 * (i + 1) : Nat) : Int) := by rw [w64 (by omega) (by omega)]; omega
      have inner : ∀ d, d ≤ 10 → 1 ≤ d → ∀ n c : Nat, n + Mo.dsum (2 * i) (10 - d) d = Mo.dsum (2 * i) 9 1 → c + Mo.dcnt (2 * i) (10 - d) d = Mo.dcnt (2 * i) 9 1 →
          Ev (fun k => spec_l16Masks.l1 k s m acc ((2 * i : Nat) : Int) (n : Int) (c : Int) (d : Int)) (acc ++ Mo.ints (((List.range' i (512 - i)).map (2 * ·)).filter (Mo.isSet s m))) := by
        refine up 10 ?_ ?_
        · intro _ n c hn hc
          have hn : n = Mo.dsum (2 * i) 9 1 := by simpa [Mo.dsum] using hn
          have hc : c = Mo.dcnt (2 * i) 9 1 := by simpa [Mo.dcnt] using hc
          refine Ev.step (fun _ => rfl) ?_
          simp only [spec_l16Masks.l1]
          refine ev_neg (by omega) ?_
          rw [setsN_step s m i hi acc _ rfl, e2]
          by_cases h1 : (n : Int) = s
          · refine ev_pos h1 ?_
            by_cases h2 : (c : Int) = m
            · have hs : Mo.isSet s m (2 * i) = true := by simp [Mo.isSet, ← hn, ← hc, h1, h2]
              rw [if_pos hs]
              exact ev_pos h2 (ev_pos (by omega) (ih _ (by simp; omega)))
            · have hs : ¬ Mo.isSet s m (2 * i) = true := by simp [Mo.isSet, ← hc, h2]
              rw [if_neg hs]
              exact ev_neg h2 (ih _ (by omega))
          · have hs : ¬ Mo.isSet s m (2 * i) = true := by simp [Mo.isSet, ← hn, h1]
            rw [if_neg hs]
            exact ev_neg h1 (ih _ (by omega))
        · intro d hd ihd h1 n c hn hc
          have hb : (2 * i) / 2 ^ d % 2 = 0 ∨ (2 * i) / 2 ^ d % 2 = 1 := by omega
          have hn9 : Mo.dsum (2 * i) 9 1 ≤ 45 := by have := Mo.dsum_other i hi; omega
          have hc9 : Mo.dcnt (2 * i) 9 1 ≤ 9 := by have := Mo.dcnt_other i hi; omega
          obtain ⟨r, hr⟩ : ∃ r, 10 - d = r + 1 := ⟨10 - d - 1, by omega⟩
          have hr' : 10 - (d + 1) = r := by omega
          have hdm := digit_mod i hi d hd
          rw [hr, Mo.dsum] at hn
          rw [hr, Mo.dcnt] at hc
          rw [hr'] at ihd
          generalize (2 * i) / 2 ^ d % 2 = q at hdm hn hc hb
          generalize Mo.dsum (2 * i) r (d + 1) = ds at hn ihd
          generalize Mo.dcnt (2 * i) r (d + 1) = dc at hc ihd
          generalize Mo.dsum (2 * i) 9 1 = S at hn hn9 ihd
          generalize Mo.dcnt (2 * i) 9 1 = C at hc hc9 ihd
          refine Ev.step (fun _ => rfl) ?_
          simp only [spec_l16Masks.l1]
          refine ev_pos (by omega) (ev_pos (by omega) ?_)
          rw [hdm, w64s (n := d) (by omega)]
          rcases hb with rfl | rfl
          · exact ev_neg (by omega) (ihd (Nat.le_add_left 1 d) n c (by omega) (by omega))
          · have e3 : wrap64 ((n : Int) + (d : Int)) = ((n + d : Nat) : Int) := by rw [w64 (by omega) (by omega)]; omega
            rw [Nat.mul_one, ← Nat.add_assoc] at hn
            rw [← Nat.add_assoc] at hc
            rw [e3, w64s (n := c) (by omega)]
            exact ev_pos rfl (ihd (Nat.le_add_left 1 d) (n + d) (c + 1) hn hc)
      refine Ev.step (fun _ => rfl) ?_
      simp only [spec_l16Masks.l0]
      have z1 : 0 + Mo.dsum (2 * i) (10 - 1) 1 = Mo.dsum (2 * i) 9 1 := by rw [Nat.zero_add]
      have z2 : 0 + Mo.dcnt (2 * i) (10 - 1) 1 = Mo.dcnt (2 * i) 9 1 := by rw [Nat.zero_add]
      have h1 := inner 1 (by omega) (by omega) 0 0 z1 z2
      refine ev_pos (by omega) ?_
      simpa only [Int.natCast_zero, Int.natCast_one] using h1
  have all := key 0 (by omega) [] (by simp)
  have h0 := rest_all s m
  simp only [List.nil_append, Nat.sub_zero] at all
  rw [h0] at all
  unfold spec_l16Masks.f
  simpa using all
theorem spec_SumSets_ev (s m : Int) : Ev (fun k => spec_SumSets.f k s m) (if 0 ≤ s ∧ s ≤ 45 ∧ 0 ≤ m ∧ m ≤ 9 then Mo.ints (Mo.setsN s m) else []) := by
  unfold spec_SumSets.f
  refine ev_bindc (spec_l1In_eq _ _ _) ?_
  by_cases h1 : 0 ≤ s ∧ s ≤ 45
  · refine ev_pos (by simpa using h1) (ev_bindc (spec_l1In_eq _ _ _) ?_)
    by_cases h2 : 0 ≤ m ∧ m ≤ 9
    · rw [if_pos ⟨h1.1, h1.2, h2⟩]
      exact ev_pos (by simpa using h2) (Ev.bind (spec_l16Masks_ev s m) (ev_now rfl))
    · rw [if_neg (fun h => h2 h.2.2)]
      exact ev_neg (by simpa using h2) (ev_now rfl)
  · rw [if_neg (fun h => h1 ⟨h.1, h.2.1⟩)]
    exact ev_neg (by simpa using h1) (ev_now rfl)
/-- What SumMust and SumCan come to. -/
def mustI (l : List Nat) : Int := if l = [] then -1 else (Mo.mustOf l : Nat)
def canI (l : List Nat) : Int := if l = [] then -1 else (Mo.canOf l : Nat)
def listOf (s m : Int) : List Nat := if 0 ≤ s ∧ s ≤ 45 ∧ 0 ≤ m ∧ m ≤ 9 then Mo.setsN s m else []
theorem listOf_ints (s m : Int) : (if 0 ≤ s ∧ s ≤ 45 ∧ 0 ≤ m ∧ m ≤ 9 then Mo.ints (Mo.setsN s m) else []) = Mo.ints (listOf s m) := by
  unfold listOf; split <;> rfl
theorem listOf_lt {s m : Int} {x : Nat} (h : x ∈ listOf s m) : x < 1024 := by
  unfold listOf at h
  split at h
  · exact Mo.set_lt h
  · cases h
theorem listOf_len (s m : Int) : (listOf s m).length ≤ 512 := by
  unfold listOf
  split
  · unfold Mo.setsN
    exact Nat.le_trans (List.length_filter_le _ _) (by simp)
  · simp
theorem rd_ints (l : List Nat) (i : Nat) (h : i < l.length) : rd (Mo.ints l) (i : Int) = ((l[i] : Nat) : Int) := by
  rw [rd_nat _ i (by simpa using h)]; simp [Mo.ints]
theorem fold_and_lt : ∀ (t : List Nat) (x : Nat), x < 1024 → t.foldl (· &&& ·) x < 1024
  | [], x, h => h
  | y :: t, x, h => fold_and_lt t (x &&& y) (Nat.lt_of_le_of_lt Nat.and_le_left h)
theorem fold_or_lt : ∀ (t : List Nat) (x : Nat), x < 1024 → (∀ y ∈ t, y < 1024) → t.foldl (· ||| ·) x < 1024
  | [], x, h, _ => h
  | y :: t, x, h, hy => fold_or_lt t (x ||| y) (Nat.or_lt_two_pow (n := 10) h (hy y (by simp))) (fun z hz => hy z (by simp [hz]))
theorem fold_and_idem (x : Nat) (t : List Nat) : (x :: t).foldl (· &&& ·) x = t.foldl (· &&& ·) x := by
  rw [List.foldl_cons, Nat.and_self]
theorem impl_SumMust_ev (s m : Int) : Ev (fun k => impl_SumMust.f k s m) (mustI (listOf s m)) := by
  unfold impl_SumMust.f
  refine Ev.bind (ev_of_eq (impl_SumSets_ev s m) (listOf_ints s m)) ?_
  have hlen := listOf_len s m
  have hlt : ∀ x ∈ listOf s m, x < 1024 := fun x => listOf_lt
  generalize listOf s m = l at hlen hlt
  rw [Mo.ints_length]
  by_cases h : l = []
  · subst h; exact ev_pos rfl (ev_now rfl)
  have key : ∀ i, i ≤ l.length → ∀ x : Nat, x < 1024 → Ev (fun k => impl_SumMust.l0 k (x : Int) (Mo.ints l) (l.length : Int) (i : Int)) (((l.drop i).foldl (· &&& ·) x : Nat) : Int) := by
    refine up l.length ?_ ?_
    · intro x _
      refine Ev.step (fun _ => rfl) ?_
      simp only [impl_SumMust.l0]
      exact ev_neg (by omega) (ev_now (by simp))
    · intro i hi ih x hx
      have hli := hlt l[i] (List.getElem_mem _)
      refine Ev.step (fun _ => rfl) ?_
      simp only [impl_SumMust.l0]
      rw [rd_ints l i hi, w64s (by omega), and_nat x l[i] (by omega) (by omega), drop_step l i hi, List.foldl_cons]
      exact ev_pos (by omega) (ev_pos (by omega) (ev_pos (by rw [Mo.ints_length]; omega) (ih _ (Nat.lt_of_le_of_lt Nat.and_le_left hx))))
  have hpos : 0 < l.length := List.length_pos_iff.2 h
  refine ev_neg (by omega) (ev_pos (by omega) ?_)
  have h0 : rd (Mo.ints l) 0 = ((l[0] : Nat) : Int) := rd_ints l 0 hpos
  rw [h0]
  refine ev_of_eq (key 0 (by omega) l[0] (hlt _ (List.getElem_mem _))) ?_
  unfold mustI
  rw [if_neg h]
  cases l with
  | nil => exact absurd rfl h
  | cons x t =>
    show ((List.foldl (· &&& ·) x (x :: t) : Nat) : Int) = _
    rw [fold_and_idem]; rfl
theorem spec_SumMust_ev (s m : Int) : Ev (fun k => spec_SumMust.f k s m) (mustI (listOf s m)) := by
  unfold spec_SumMust.f
  refine Ev.bind (ev_of_eq (spec_SumSets_ev s m) (listOf_ints s m)) ?_
  have hlen := listOf_len s m
  have hlt : ∀ x ∈ listOf s m, x < 1024 := fun x => listOf_lt
  generalize listOf s m = l at hlen hlt
  rw [Mo.ints_length]
  by_cases h : l = []
  · subst h; exact ev_pos rfl (ev_now rfl)
  have key : ∀ i, i ≤ l.length → ∀ x : Nat, x < 1024 → Ev (fun k => spec_SumMust.l0 k (Mo.ints l) (x : Int) (i : Int)) (((l.drop i).foldl (· &&& ·) x : Nat) : Int) := by
    refine up l.length ?_ ?_
    · intro x _
      refine Ev.step (fun _ => rfl) ?_
      simp only [spec_SumMust.l0]
      exact ev_neg (by rw [Mo.ints_length]; omega) (ev_now (by simp))
    · intro i hi ih x hx
      have hli := hlt l[i] (List.getElem_mem _)
      refine Ev.step (fun _ => rfl) ?_
      simp only [spec_SumMust.l0]
      rw [rd_ints l i hi, w64s (by omega), and_nat x l[i] (by omega) (by omega), drop_step l i hi, List.foldl_cons]
      exact ev_pos (by rw [Mo.ints_length]; omega) (ev_pos (by omega) (ih _ (Nat.lt_of_le_of_lt Nat.and_le_left hx)))
  have hpos : 0 < l.length := List.length_pos_iff.2 h
  refine ev_neg (by omega) (ev_pos (by omega) ?_)
  have h0 : rd (Mo.ints l) 0 = ((l[0] : Nat) : Int) := rd_ints l 0 hpos
  rw [h0]
  refine ev_of_eq (key 1 (by omega) l[0] (hlt _ (List.getElem_mem _))) ?_
  unfold mustI
  rw [if_neg h]
  cases l with
  | nil => exact absurd rfl h
  | cons x t => rfl
theorem impl_SumCan_ev (s m : Int) : Ev (fun k => impl_SumCan.f k s m) (canI (listOf s m)) := by
  unfold impl_SumCan.f
  refine Ev.bind (ev_of_eq (impl_SumSets_ev s m) (listOf_ints s m)) ?_
  have hlen := listOf_len s m
  have hlt : ∀ x ∈ listOf s m, x < 1024 := fun x => listOf_lt
  generalize listOf s m = l at hlen hlt
  rw [Mo.ints_length]
  by_cases h : l = []
  · subst h; exact ev_pos rfl (ev_now rfl)
  have key : ∀ i, i ≤ l.length → ∀ x : Nat, x < 1024 → Ev (fun k => impl_SumCan.l0 k (x : Int) (Mo.ints l) (l.length : Int) (i : Int)) (((l.drop i).foldl (· ||| ·) x : Nat) : Int) := by
    refine up l.length ?_ ?_
    · intro x _
      refine Ev.step (fun _ => rfl) ?_
      simp only [impl_SumCan.l0]
      exact ev_neg (by omega) (ev_now (by simp))
    · intro i hi ih x hx
      have hli := hlt l[i] (List.getElem_mem _)
      refine Ev.step (fun _ => rfl) ?_
      simp only [impl_SumCan.l0]
      rw [rd_ints l i hi, w64s (by omega), or_nat x l[i] (by omega) (by omega), drop_step l i hi, List.foldl_cons]
      exact ev_pos (by omega) (ev_pos (by omega) (ev_pos (by rw [Mo.ints_length]; omega) (ih _ (Nat.or_lt_two_pow (n := 10) hx hli))))
  have hpos : 0 < l.length := List.length_pos_iff.2 h
  refine ev_neg (by omega) ?_
  refine ev_of_eq (key 0 (by omega) 0 (by omega)) ?_
  unfold canI
  rw [if_neg h]; rfl
theorem spec_SumBounds_eq (m : Int) (h0 : -1 ≤ m) (h1 : m ≤ 10) : ∃ a b, spec_SumBounds.f m = some (a, b) ∧ -1 ≤ a ∧ a ≤ 45 ∧ -1 ≤ b ∧ b ≤ 45 := by
  have hc : m = -1 ∨ m = 0 ∨ m = 1 ∨ m = 2 ∨ m = 3 ∨ m = 4 ∨ m = 5 ∨ m = 6 ∨ m = 7 ∨ m = 8 ∨ m = 9 ∨ m = 10 := by omega
  rcases hc with rfl | rfl | rfl | rfl | rfl | rfl | rfl | rfl | rfl | rfl | rfl | rfl
  · exact ⟨-1, -1, by decide +kernel, by omega, by omega, by omega, by omega⟩
  · exact ⟨0, 0, by decide +kernel, by omega, by omega, by omega, by omega⟩
  · exact ⟨1, 9, by decide +kernel, by omega, by omega, by omega, by omega⟩
  · exact ⟨3, 17, by decide +kernel, by omega, by omega, by omega, by omega⟩
  · exact ⟨6, 24, by decide +kernel, by omega, by omega, by omega, by omega⟩
  · exact ⟨10, 30, by decide +kernel, by omega, by omega, by omega, by omega⟩
  · exact ⟨15, 35, by decide +kernel, by omega, by omega, by omega, by omega⟩
  · exact ⟨21, 39, by decide +kernel, by omega, by omega, by omega, by omega⟩
  · exact ⟨28, 42, by decide +kernel, by omega, by omega, by omega, by omega⟩
  · exact ⟨36, 44, by decide +kernel, by omega, by omega, by omega, by omega⟩
  · exact ⟨45, 45, by decide +kernel, by omega, by omega, by omega, by omega⟩
  · exact ⟨-1, -1, by decide +kernel, by omega, by omega, by omega, by omega⟩
theorem spec_DrawSumMust_ev (l : List Int) (hw : ∀ x ∈ l, (Lit.int .u8 x).wf = true) : ∃ s m, Ev (fun k => spec_DrawSumMust.f k l) (s, m) ∧ -1000 ≤ s ∧ s ≤ 1000 ∧ -1 ≤ m ∧ m ≤ 10 := by
  obtain ⟨b, hb, hB⟩ := spec_l20Open_ev l hw
  have key : ∃ s m p, Ev (fun k => spec_l20Sum.f k b 0) (s, m, p) ∧ -1000 ≤ s ∧ s ≤ 1000 ∧ -1 ≤ m ∧ m ≤ 10 := by
    unfold spec_l20Sum.f
    obtain ⟨r1, h1, a1, b1, _⟩ := spec_l20Rd_pick_ev b 0 11 hB (by omega) (by omega) (by omega)
    obtain ⟨r2, h2, a2, b2, _⟩ := spec_l20Rd_pick_ev b (0 + 1) 9 hB (by omega) (by omega) (by omega)
    have b1 := b1 (by omega)
    have b2 := b2 (by omega)
    have q : Int.tdiv r2 8 = r2 / 8 := Int.tdiv_eq_ediv_of_nonneg a2
    have e : wrap64 (r1 - wrap64 (Int.tdiv r2 8)) = r1 - r2 / 8 := by rw [q, w64 (n := r2 / 8) (by omega) (by omega), w64 (by omega) (by omega)]
    obtain ⟨x, y, hxy, x0, x1, y0, y1⟩ := spec_SumBounds_eq (r1 - r2 / 8) (by omega) (by omega)
    obtain ⟨r3, h3, a3, b3, _⟩ := spec_l20Rd_pick_ev b (0 + 1 + 1) 47 hB (by omega) (by omega) (by omega)
    have b3 := b3 (by omega)
    rw [← e] at hxy
    have em : -1 ≤ wrap64 (r1 - wrap64 (Int.tdiv r2 8)) ∧ wrap64 (r1 - wrap64 (Int.tdiv r2 8)) ≤ 10 := by rw [e]; omega
    have e3 : wrap64 (r3 - 1) = r3 - 1 := w64 (by omega) (by omega)
    by_cases hx : x ≥ 0
    · obtain ⟨r4, h4, a4, b4, _⟩ := spec_l20Rd_pick_ev b (0 + 1 + 1 + 1) 3 hB (by omega) (by omega) (by omega)
      by_cases h40 : r4 > 0
      · have em2 : wrap64 (wrap64 (y - x) + 1) = y - x + 1 := by rw [w64 (n := y - x) (by omega) (by omega), w64 (by omega) (by omega)]
        have hmx : 1 ≤ mx 1 (wrap64 (wrap64 (y - x) + 1)) ∧ mx 1 (wrap64 (wrap64 (y - x) + 1)) ≤ 100 := by rw [em2]; unfold mx; split <;> omega
        obtain ⟨r5, h5, a5, b5, _⟩ := spec_l20Rd_pick_ev b (0 + 1 + 1 + 1 + 1) (mx 1 (wrap64 (wrap64 (y - x) + 1))) hB (by omega) (by omega) (by omega)
        have b5 := b5 hmx.1
        refine ⟨_, _, _, Ev.bind h1 (Ev.bind h2 (ev_bindc hxy (Ev.bind h3 (ev_pos hx (Ev.bind h4 (ev_pos h40 (Ev.bind h5 (ev_now rfl)))))))), ?_, ?_, em.1, em.2⟩
        · show _ ≤ wrap64 (x + r5); rw [w64 (by omega) (by omega)]; omega
        · show wrap64 (x + r5) ≤ _; rw [w64 (by omega) (by omega)]; omega
      · refine ⟨_, _, _, Ev.bind h1 (Ev.bind h2 (ev_bindc hxy (Ev.bind h3 (ev_pos hx (Ev.bind h4 (ev_neg h40 (ev_now rfl))))))), ?_, ?_, em.1, em.2⟩
        · show _ ≤ wrap64 (r3 - 1); omega
        · show wrap64 (r3 - 1) ≤ _; omega
    · refine ⟨_, _, _, Ev.bind h1 (Ev.bind h2 (ev_bindc hxy (Ev.bind h3 (ev_neg hx (ev_now rfl))))), ?_, ?_, em.1, em.2⟩
      · show _ ≤ wrap64 (r3 - 1); omega
      · show wrap64 (r3 - 1) ≤ _; omega
  obtain ⟨s, m, p, h, h'⟩ := key
  refine ⟨s, m, ?_, h'⟩
  unfold spec_DrawSumMust.f
  exact ev_bindc hb (Ev.bind h (ev_now rfl))
end XFnSumMust
open XFnSumMust
theorem FnSumMust : laws_FnSumMust.Pure := by
  intro l _ _ hw
  refine Ev.rounds (r := true) ?_
  unfold laws_FnSumMust.f
  by_cases hl : (l.length : Int) > 1048576
  · exact ev_pos hl (ev_now rfl)
  refine ev_neg hl ?_
  obtain ⟨s, m, hd, hs0, hs1, hm0, hm1⟩ := spec_DrawSumMust_ev l hw
  refine Ev.bind hd (Ev.bind (impl_SumMust_ev s m) (Ev.bind (spec_SumMust_ev s m) (ev_pos rfl (Ev.bind (impl_SumCan_ev s m) ?_))))
  by_cases hne : listOf s m = []
  · have e1 : mustI (listOf s m) = -1 := if_pos hne
    have e2 : canI (listOf s m) = -1 := if_pos hne
    rw [e1, e2]
    exact ev_pos (by omega) (ev_pos rfl (ev_pos rfl (Ev.bind laws_alive_ev (ev_now rfl))))
  · have hr : 0 ≤ s ∧ s ≤ 45 ∧ 0 ≤ m ∧ m ≤ 9 := Classical.byContradiction fun h => hne (if_neg h)
    have hls : listOf s m = Mo.setsN s m := if_pos hr
    have hls2 : listOf (45 - s) (9 - m) = Mo.setsN (45 - s) (9 - m) := if_pos (by omega)
    have hne' : Mo.setsN s m ≠ [] := hls ▸ hne
    have e1 : mustI (listOf s m) = ((Mo.mustOf (Mo.setsN s m) : Nat) : Int) := by unfold mustI; rw [if_neg hne, hls]
    have e2 : canI (listOf s m) = ((Mo.canOf (Mo.setsN s m) : Nat) : Int) := by unfold canI; rw [if_neg hne, hls]
    rw [e1, e2]
    have hml := Mo.must_lt (s := s) (m := m)
    have hcl := Mo.can_lt (s := s) (m := m)
    refine ev_neg (by omega) (Ev.bind (ev_of_eq (impl_SumSets_ev s m) ((listOf_ints s m).trans (congrArg Mo.ints hls))) ?_)
    have hlen := listOf_len s m
    rw [hls] at hlen
    have key : ∀ i, i ≤ (Mo.setsN s m).length → Ev (fun k => laws_FnSumMust.l0 k s m ((Mo.mustOf (Mo.setsN s m) : Nat) : Int) ((Mo.canOf (Mo.setsN s m) : Nat) : Int) (Mo.ints (Mo.setsN s m)) (i : Int)) true := by
      refine up _ ?_ ?_
      · refine Ev.step (fun _ => rfl) ?_
        simp only [laws_FnSumMust.l0]
        refine ev_neg (by rw [Mo.ints_length]; omega) ?_
        rw [andn_nat _ _ (by omega) (by omega), Mo.must_can hne', w64 (n := 45 - s) (by omega) (by omega), w64 (n := 9 - m) (by omega) (by omega)]
        refine ev_pos rfl (Ev.bind (impl_SumMust_ev (45 - s) (9 - m)) (ev_now ?_))
        obtain ⟨h1, h2⟩ := Mo.must_other hne'
        have e3 : Go.bits .andNot .i64 1022 ((Mo.canOf (Mo.setsN s m) : Nat) : Int) = ((andn 1022 (Mo.canOf (Mo.setsN s m)) : Nat) : Int) := andn_nat 1022 _ (by omega) (by omega)
        unfold mustI
        rw [hls2, if_neg h1, h2, e3]; simp
      · intro i hi ih
        refine Ev.step (fun _ => rfl) ?_
        simp only [laws_FnSumMust.l0]
        have hlt := Mo.set_lt (List.getElem_mem hi)
        rw [rd_ints _ i hi, w64s (by omega), andn_nat _ _ (by omega) (by omega), Mo.must_in (List.getElem_mem hi)]
        exact ev_pos (by rw [Mo.ints_length]; omega) (ev_pos (by omega) (ev_pos rfl ih))
    simpa using key 0 (by omega)

end Go.Proofs.Ytinockknikfmgaa.Pure
