/- Texts for the row of the law FnNarrowRules, part 16: the plain machine, the program's functions on it, what they come to. No conditions. -/
import Derived.Test.YtchliocobgkmbaaBuFnNarrowRules13
import Derived.Test.YtchliocobgkmbaaBuFnNarrowRules9
import Derived.Test.YtchliocobgkmbaaBuFnNarrowRules15
import Derived.Test.YtchliocobgkmbaaBuFnNarrowRules14
import Derived.Test.YtchliocobgkmbaaBuFnNarrowRules12
import Derived.Test.YtchliocobgkmbaaBuFnNarrowRules10
set_option linter.unusedVariables false
set_option linter.unusedSimpArgs false
namespace Go.Proofs.Ytchliocobgkmbaa.Rp
open Go Go.RowKit Go.Proofs.Ytchliocobgkmbaa.Ab
theorem allValues_ok {k : Nat} (hk : 1 ≤ k) {n : Int} (hn : 2 ≤ n ∧ n ≤ 4) (H : Hp) : callF PP orc k impl_allValues.id [.int .i64 n] H = some (.int .i64 (topMask n), H) := by
 obtain ⟨k, rfl⟩ := Zs k (by omega)
 rw [impl_allValues.call]
 obtain ⟨p1, p2, p3⟩ := topMask_pw hn
 simp (disch := omega) only [impl_allValues.f, iN, m_shl (v := n + 1), p1, wr]
/-! ### impl.valuesHold -/
def KindLen (kind : Int) (m : Nat) : Prop := (kind = 1 ∨ kind = 2 ∨ kind = 3) ∨ ((kind = 4 ∨ kind = 5) ∧ 2 ≤ m)
theorem implHold_l0 {k : Nat} (hk : 2000001 ≤ k) {kind value : Int} {cs vs : Sl} {H : Hp} {vals : List Int} (hs : Reads .i64 H vs vals) (hl : Vals vals) (h2 : KindLen kind vals.length) :
  ∀ (j i fuel : Nat) (x5 x6 : Int), i + j = vals.length → j < fuel → 0 ≤ x5 → x5 ≤ 4 * i → 0 ≤ x6 → x6 ≤ 4 ^ i →
   impl_valuesHold.l0 (callF PP orc k) k fuel vs x5 x6 vs vals.length i kind cs value H = some (.bool (if kind = 1 then distFrom vals i j else if kind = 2 then decide ((vals.drop i).foldl (· + ·) x5 = value) else if kind = 3 then decide ((vals.drop i).foldl (· * ·) x6 = value)
    else if kind = 4 then decide (vals.getD 0 0 < vals.getD 1 0) else decide (mx (vals.getD 0 0 - vals.getD 1 0) (vals.getD 1 0 - vals.getD 0 0) = value)), H) := by
 have hv := hs.len
 have hl4 := hl.1
 have eqd : ∀ a b : Int, (a == b) = decide (a = b) := fun a b => by rw [Bool.eq_iff_iff]; simp
 unfold KindLen at h2
 intro j
 induction j with
 | zero =>
  intro i fuel x5 x6 hi hf h50 h51 h60 h61
  obtain ⟨fuel, rfl⟩ := Zs fuel (by omega)
  rw [show vals.drop i = [] from List.drop_eq_nil_of_le (by omega)]
  simp (disch := omega) only [impl_valuesHold.l0, impl_valuesHold.j2, df, Zf, distFrom, List.foldl_nil, eqd]
  by_cases k1 : kind = 1
  ·subst k1; rfl
  by_cases k2 : kind = 2
  ·subst k2; rfl
  by_cases k3 : kind = 3
  ·subst k3; rfl
  have hlen : 2 ≤ vals.length := by omega
  have a0 := hl.at 0
  have a1 := hl.at 1
  by_cases k4 : kind = 4
  ·simp (disch := omega) only [k2, k3, k4, if_false, dt, df, Za, Zt, Zf, rdn hs, Zo, wr, Zz, Zi]
   rfl
  ·have k5 : kind = 5 := by omega
   subst k5
   simp (disch := omega) only [if_false, dt, df, Za, Zt, Zf, rdn hs, Zo, wr, Zz, Zi]
   rfl
 | succ j ih =>
  intro i fuel x5 x6 hi hf h50 h51 h60 h61
  obtain ⟨fuel, rfl⟩ := Zs fuel (by omega)
  have h3 : i < vals.length := by omega
  obtain ⟨a0, a1⟩ := hl.at i
  have hd : (vals.drop i) = vals.getD i 0 :: vals.drop (i + 1) := by
   rw [List.drop_eq_getElem_cons h3, List.getD_eq_getElem?_getD, List.getElem?_eq_getElem h3]; rfl
  have hp : (4 : Int) ^ i ≤ 64 := by
   have : i = 0 ∨ i = 1 ∨ i = 2 ∨ i = 3 := by omega
   rcases this with rfl | rfl | rfl | rfl <;> decide
  have hm : x6 * vals.getD i 0 ≤ x6 * 4 := Int.mul_le_mul_of_nonneg_left a1 h60
  have hm0 : 0 ≤ x6 * vals.getD i 0 := Int.mul_nonneg h60 a0
  have hq : (4 : Int) ^ (i + 1) = 4 ^ i * 4 := Int.pow_succ _ _
  have h6 := ih (i + 1) fuel (x5 + vals.getD i 0) (x6 * vals.getD i 0) (by omega) (by omega) (by omega) (by omega) (by omega) (by omega)
  push_cast at h6
  rw [hd, List.foldl_cons, List.foldl_cons]
  by_cases k1 : kind = 1
  ·have hc := Contains_ok hk (vals.getD i 0) (reads_pre hs i (by omega) vs.nil) (by simp; omega)
   have hsl : Sl.mk vs.nil vs.blk (vs.off + 0 * 1) ((i : Int) - 0).toNat = Sl.mk vs.nil vs.blk vs.off i := by simp
   subst k1
   simp only [if_true] at h6 ⊢
   rw [distFrom]
   simp (disch := omega) only [impl_valuesHold.l0, dt, bt, Za, Zt, Zn, Zz, rdn hs, Zo, wr, hsl]
   rw [ip (by simp; omega), hc]
   cases (vals.take i).contains (vals.getD i 0) with
   | true => simp only [impl_valuesHold.j1, dt, df, bt, bf, nt, nf, Za, Zy, Zx, Zt, Zf, Zn, Zz, Zi, Zo, wr, AV.toB, AV.toI, AV.toS, if_true, Bool.false_and]
   | false => simp (disch := omega) only [impl_valuesHold.j1, impl_valuesHold.j3, dt, df, bt, bf, nt, nf, Za, Zy, Zx, Zt, Zf, Zn, Zz, Zi, Zo, wr, AV.toB, AV.toI, AV.toS, if_true, h6, Bool.true_and]
  ·simp only [if_neg k1] at h6 ⊢
   simp (disch := omega) only [impl_valuesHold.l0, impl_valuesHold.j1, impl_valuesHold.j3, dt, bf, Za, Zt, Zf, Zn, rdn hs, Zo, wr, h6]
theorem valuesHold_ok {k : Nat} (hk : 2000002 ≤ k) {kind value : Int} {cs vs : Sl} {H : Hp} {vals : List Int} (hs : Reads .i64 H vs vals) (hl : Vals vals) (h2 : KindLen kind vals.length) :
  callF PP orc k impl_valuesHold.id [.agg [.int .i64 kind, .sl 1 cs, .int .i64 value], .sl 1 vs] H = some (.bool (holdsV kind value vals), H) := by
 obtain ⟨k, rfl⟩ := Zs k (by omega)
 rw [impl_valuesHold.call]
 have h4 := hl.1
 have := implHold_l0 (show 2000001 ≤ k by omega) (kind := kind) (value := value) (cs := cs) hs hl h2 vals.length 0 k 0 1 (by omega) (by omega) (by omega) (by omega) (by omega) (by omega)
 simp only [List.drop_zero] at this
 have e := hs.len
 show impl_valuesHold.l0 (callF PP orc k) k k vs 0 1 vs (vs.len : Int) 0 kind cs value H = _
 rw [e]
 exact this
/-! ### impl.ruleMasks -/
structure Try (H : Hp) (cb : Nat) (rb vb ob tb : Nat) (kind value : Int) (cs ws vs os : Sl) : Prop where
 c : H[cb]? = some (some ⟨false, [.sl 1 ws]⟩)
 r : H[rb]? = some (some ⟨false, [.int .i64 kind, .sl 1 cs, .int .i64 value]⟩)
 v : H[vb]? = some (some ⟨false, [.sl 1 vs]⟩)
 o : H[ob]? = some (some ⟨false, [.sl 1 os]⟩)
 t : H[tb]? = some (some ⟨false, [.fn impl_ruleMasks_1.id [.ptr cb 0, .ptr rb 0, .ptr vb 0, .ptr ob 0, .ptr tb 0]]⟩)
 ne : (cb ≠ vs.blk ∧ cb ≠ os.blk) ∧ (rb ≠ vs.blk ∧ rb ≠ os.blk) ∧ (vb ≠ vs.blk ∧ vb ≠ os.blk) ∧ (ob ≠ vs.blk ∧ ob ≠ os.blk) ∧ (tb ≠ vs.blk ∧ tb ≠ os.blk)
theorem Try.adv {H H' : Hp} {cb rb vb ob tb : Nat} {kind value : Int} {cs ws vs os : Sl} (h : Try H cb rb vb ob tb kind value cs ws vs os) (g : Adv2 vs.blk os.blk H H') : Try H' cb rb vb ob tb kind value cs ws vs os := by
 obtain ⟨n1, n2, n3, n4, n5⟩ := h.ne
 exact ⟨g.but _ _ n1.1 n1.2 h.c, g.but _ _ n2.1 n2.2 h.r, g.but _ _ n3.1 n3.2 h.v, g.but _ _ n4.1 n4.2 h.o, g.but _ _ n5.1 n5.2 h.t, h.ne⟩
theorem box_sl {H : Hp} {b : Nat} {s : Sl} (h : H[b]? = some (some ⟨false, [.sl 1 s]⟩)) : ldS 1 H b 0 = some s := by unfold ldS Hp.cell; rw [h]; simp [AV.toS]
theorem adv_adv2 {a c : Nat} {H H' : Hp} (h : Adv a H H') : Adv2 a c H H' := ⟨fun d x h1 _ hx => h.but d x h1 hx, h.le⟩
theorem adv_adv2' {a c : Nat} {H H' : Hp} (h : Adv c H H') : Adv2 a c H H' := ⟨fun d x _ h2 hx => h.but d x h2 hx, h.le⟩
theorem Adv2.tr {a c : Nat} {H H1 H2 : Hp} (h : Adv2 a c H H1) (h' : Adv2 a c H1 H2) : Adv2 a c H H2 := h.trans h' (.inl rfl)
theorem Try_l0 (rec : Rec) (k : Nat) {B : Hp} {ob : Nat} {vs os : Sl} {vals : List Int} (hv : Vals vals) (hne : vs.blk ≠ os.blk) (hob : ob ≠ os.blk) :
  ∀ (j i fuel : Nat) (H : Hp) (fl : List Int), i + j = vals.length → j < fuel → B <+: H → Reads .i64 H vs vals → H[ob]? = some (some ⟨false, [.sl 1 os]⟩) → Ms fl → vals.length ≤ fl.length → Own 1 B H os (fl.map (.int .i64)) →
   ∃ H', impl_ruleMasks_1.l0 rec k fuel ob 0 vs vals.length i H = some (.tup [], H') ∧ B <+: H' ∧ Adv os.blk H H' ∧ Own 1 B H' os ((orFrom vals fl i j).map (.int .i64)) := by
 have hl := hv.1
 intro j
 induction j with
 | zero =>
  intro i fuel H fl hi hf hp hs hb hm hfl ho
  obtain ⟨fuel, rfl⟩ := Zs fuel (by omega)
  exact ⟨H, by simp (disch := omega) only [impl_ruleMasks_1.l0, dt, df, bt, bf, nt, nf, Za, Zy, Zx, Zt, Zf, Zn, Zz, Zi, Zo, wr, AV.toB, AV.toI, AV.toS, if_true], hp, Adv.refl _ _, ho⟩
 | succ j ih =>
  intro i fuel H fl hi hf hp hs hb hm hfl ho
  obtain ⟨fuel, rfl⟩ := Zs fuel (by omega)
  have hfs : os.len = fl.length := by have := ho.len; simpa using this
  have hvl := hs.len
  obtain ⟨v0, v1⟩ := hv.at i
  obtain ⟨H1, a1, a2, a3, a4⟩ := own_set1 ho hp i (by omega) (mOr (fl.getD i 0) (pw (vals.getD i 0)))
  obtain ⟨H', b1, b2, b3, b4⟩ := ih (i + 1) fuel H1 _ (by omega) (by omega) a2 (a4.reads hne hs) (a4.but _ _ hob hb) (hm.set i (M.or (hm.at i) (M.pw v0 v1))) (by simpa using hfl) a3
  push_cast at b1
  refine ⟨H', ?_, b2, a4.trans b3, b4⟩
  simp (disch := omega) only [impl_ruleMasks_1.l0, dt, df, bt, bf, nt, nf, Za, Zy, Zx, Zt, Zf, Zn, Zz, Zi, Zo, wr, AV.toB, AV.toI, AV.toS, if_true, box_sl hb, rdn (own_reads ho), rdn hs, iN, m_shl v0, m_or (hm.at i) (M.pw v0 v1), a1, b1]
theorem okTry : okF PP impl_ruleMasks_1.id = true := by kernel_rfl
theorem Try_ok {B : Hp} {cb rb vb ob tb : Nat} {kind value : Int} {cs ws vs os : Sl} {own : List Int} (hw : Reads .i64 B ws own) (hol : own.length ≤ 4) (hom : ∀ m ∈ own, (0 ≤ m ∧ m ≤ 30) ∧ m.tmod 2 = 0) (hk2 : KindLen kind own.length) (hne : vs.blk ≠ os.blk) :
  ∀ (rem k : Nat), 2000010 + rem ≤ k → ∀ (H : Hp) (vals rest fl : List Int), vals.length + rem = own.length → rest.length = rem → B <+: H → Try H cb rb vb ob tb kind value cs ws vs os → Own 1 B H vs ((vals ++ rest).map (.int .i64)) → Vals vals → fl.length = own.length → Ms fl → Own 1 B H os (fl.map (.int .i64)) →
   ∃ H' rest', callF PP orc k impl_ruleMasks_1.id [.int .i64 (vals.length : Int), .ptr cb 0, .ptr rb 0, .ptr vb 0, .ptr ob 0, .ptr tb 0] H = some (.tup [], H') ∧ rest'.length = rem ∧ B <+: H' ∧ Adv2 vs.blk os.blk H H' ∧ Own 1 B H' vs ((vals ++ rest').map (.int .i64)) ∧ Own 1 B H' os ((ways (holdsV kind value) (own.drop vals.length) vals fl).map (.int .i64)) := by
 intro rem
 induction rem with
 | zero =>
  intro k hk H vals rest fl hl hr hp ht hv hvals hfl hm ho
  obtain ⟨k, rfl⟩ := Zs k (by omega)
  rw [impl_ruleMasks_1.call]
  have er : rest = [] := List.length_eq_zero_iff.1 hr
  subst er
  rw [List.append_nil] at hv
  have hwl := hw.len
  have rv := own_reads hv
  have hvl := rv.len
  have h1 := valuesHold_ok (show 2000002 ≤ k by omega) (kind := kind) (value := value) (cs := cs) rv hvals (by rw [show vals.length = own.length by omega]; exact hk2)
  have r0 : ldI .i64 H rb 0 = some kind := by unfold ldI Hp.cell; rw [ht.r]; simp [AV.toI]
  have r1 : ldS 1 H rb (0 + 1) = some cs := by unfold ldS Hp.cell; rw [ht.r]; simp [AV.toS]
  have r2 : ldI .i64 H rb (0 + 1 + 1) = some value := by unfold ldI Hp.cell; rw [ht.r]; simp [AV.toI]
  rw [show own.drop vals.length = [] from List.drop_eq_nil_of_le (by omega), ways]
  cases hh : holdsV kind value vals with
  | true =>
   rw [hh] at h1
   obtain ⟨H', b1, b2, b3, b4⟩ := Try_l0 (callF PP orc k) k hvals hne ht.ne.2.2.2.1.2 vals.length 0 k H fl (by omega) (by have := hvals.1; omega) hp rv ht.o hm (by omega) ho
   refine ⟨H', [], ?_, rfl, b2, adv_adv2' b3, by rw [List.append_nil]; exact b3.but.own hne hv, b4⟩
   simp only [Int.natCast_zero] at b1
   simp (disch := omega) only [impl_ruleMasks_1.f, dt, df, bt, bf, nt, nf, Za, Zy, Zx, Zt, Zf, Zn, Zz, Zi, Zo, wr, AV.toB, AV.toI, AV.toS, if_true, box_sl ht.c, box_sl ht.v, r0, r1, r2, h1, hvl, b1]
  | false =>
   rw [hh] at h1
   refine ⟨H, [], ?_, rfl, hp, Adv2.refl _ _ _, by rw [List.append_nil]; exact hv, by simpa using ho⟩
   simp (disch := omega) only [impl_ruleMasks_1.f, dt, df, bt, bf, nt, nf, Za, Zy, Zx, Zt, Zf, Zn, Zz, Zi, Zo, wr, AV.toB, AV.toI, AV.toS, if_true, box_sl ht.c, box_sl ht.v, r0, r1, r2, h1]
 | succ rem ih =>
  intro k hk H vals rest fl hl hr hp ht hv hvals hfl hm ho
  obtain ⟨k, rfl⟩ := Zs k (by omega)
  rw [impl_ruleMasks_1.call]
  have hwl := hw.len
  have hcv : vals.length < own.length := by omega
  have hom' := hom _ (mem_getD hcv)
  have hd : own.drop vals.length = own.getD vals.length 0 :: own.drop (vals.length + 1) := by
   rw [List.drop_eq_getElem_cons hcv, List.getD_eq_getElem?_getD, List.getElem?_eq_getElem hcv]; rfl
  rw [hd, ways]
  generalize hmm : own.getD vals.length 0 = m at *
  have hM : M m := ⟨hom'.1.1, by have := hom'.1.2; omega⟩
  have hmv : maskVals m = mvFrom m 1 4 := by unfold maskVals; rw [if_pos hom']
  rw [hmv]
  have loop : ∀ (j v fuel : Nat) (Hc : Hp) (rest fl : List Int), v + j = 5 → 1 ≤ v → j < fuel → rest.length = rem + 1 → B <+: Hc → Try Hc cb rb vb ob tb kind value cs ws vs os → Own 1 B Hc vs ((vals ++ rest).map (.int .i64)) → fl.length = own.length → Ms fl → Own 1 B Hc os (fl.map (.int .i64)) →
    ∃ H' rest', impl_ruleMasks_1.l1 (callF PP orc k) k fuel (vals.length : Int) cb 0 vb 0 tb 0 v Hc = some (.tup [], H') ∧ rest'.length = rem + 1 ∧ B <+: H' ∧ Adv2 vs.blk os.blk Hc H' ∧ Own 1 B H' vs ((vals ++ rest').map (.int .i64)) ∧ Own 1 B H' os (((mvFrom m v j).foldl (fun f v => ways (holdsV kind value) (own.drop (vals.length + 1)) (vals ++ [v]) f) fl).map (.int .i64)) := by
   intro j
   induction j with
   | zero =>
    intro v fuel Hc rest fl hv5 hv1 hf hr hp ht hv hfl hm ho
    obtain ⟨fuel, rfl⟩ := Zs fuel (by omega)
    refine ⟨Hc, rest, ?_, hr, hp, Adv2.refl _ _ _, hv, ho⟩
    simp (disch := omega) only [impl_ruleMasks_1.l1, dt, df, bt, bf, nt, nf, Za, Zy, Zx, Zt, Zf, Zn, Zz, Zi, Zo, wr, AV.toB, AV.toI, AV.toS, if_true]
   | succ j ihj =>
    intro v fuel Hc rest fl hv5 hv1 hf hr hp ht hv hfl hm ho
    obtain ⟨fuel, rfl⟩ := Zs fuel (by omega)
    have hvl := (own_reads hv).len
    simp only [List.length_append] at hvl
    have hb : mbit m v = has m v := by
     have := m_bit (v := (v : Int)) hM (by omega) (by omega)
     simpa [mbit] using this
    have hbit := m_bit' (v := (v : Int)) hM (by omega) (by omega)
    rw [Int.toNat_natCast] at hbit
    rw [mvFrom, hb]
    cases hh : has m v with
    | true =>
     rw [hh] at hbit
     obtain ⟨x, rest0, rfl⟩ : ∃ x rest0, rest = x :: rest0 := by
      cases rest with
      | nil => simp at hr
      | cons x r => exact ⟨x, r, rfl⟩
     obtain ⟨H1, a1, a2, a3, a4⟩ := own_set1 hv hp vals.length (by simp) (v : Int)
     have e1 : (vals ++ x :: rest0).set vals.length (v : Int) = (vals ++ [(v : Int)]) ++ rest0 := by
      rw [List.set_append_right _ _ (Nat.le_refl _), Nat.sub_self, List.set_cons_zero, List.append_assoc]; rfl
     rw [e1] at a3
     have ht1 := ht.adv (adv_adv2 (c := os.blk) a4)
     have hw1 := ways_ok (holdsV kind value) (own.drop (vals.length + 1)) (vals ++ [(v : Int)]) fl (hvals.app (by omega) ⟨by omega, by omega⟩) (by simp; omega) hm
     obtain ⟨H2, rest', b1, b2, b3, b4, b5, b6⟩ := ih k (by omega) H1 (vals ++ [(v : Int)]) rest0 fl (by simp; omega) (by simpa using hr) a2 ht1 a3 (hvals.app (by omega) ⟨by omega, by omega⟩) hfl hm (a4.but.own (Ne.symm hne) ho)
     rw [List.length_append, List.length_singleton] at b1 b6
     rw [List.append_assoc] at b5
     have adv2 : Adv2 vs.blk os.blk Hc H2 := (adv_adv2 (c := os.blk) a4).tr b4
     obtain ⟨H3, rest'', d1, d2, d3, d4, d5, d6⟩ := ihj (v + 1) fuel H2 ([(v : Int)] ++ rest') _ (by omega) (by omega) (by omega) (by simp; omega) b3 (ht.adv adv2) b5 (by rw [hw1.2]; exact hfl) hw1.1 b6
     have hf0 : ldF H1 tb 0 = some (impl_ruleMasks_1.id, [.ptr cb 0, .ptr rb 0, .ptr vb 0, .ptr ob 0, .ptr tb 0]) := by unfold ldF Hp.cell; rw [ht1.t]; simp [AV.toF]
     refine ⟨H3, rest'', ?_, d2, d3, adv2.tr d4, d5, ?_⟩
     ·push_cast at d1 b1
      have rw0 := rdn (pf_reads hp hw) hcv
      rw [hmm] at rw0
      simp (disch := omega) only [impl_ruleMasks_1.l1, impl_ruleMasks_1.j2, dt, Za, Zt, Zn, Zo, box_sl ht.c, box_sl ht.v, rw0, iN, hbit, hvl, a1, hf0, okTry, wr (n := (vals.length : Int) + 1), wr (n := (v : Int) + 1), List.cons_append, List.nil_append, List.all_cons, List.all_nil, AV.glob, AV.cell, b1, d1]
     ·rw [if_pos rfl, List.cons_append, List.nil_append, List.foldl_cons]; exact d6
    | false =>
     rw [hh] at hbit
     obtain ⟨H3, rest'', d1, d2, d3, d4, d5, d6⟩ := ihj (v + 1) fuel Hc rest fl (by omega) (by omega) (by omega) hr hp ht hv hfl hm ho
     refine ⟨H3, rest'', ?_, d2, d3, d4, d5, ?_⟩
     ·push_cast at d1
      have rw0 := rdn (pf_reads hp hw) hcv
      rw [hmm] at rw0
      simp (disch := omega) only [impl_ruleMasks_1.l1, impl_ruleMasks_1.j2, dt, Za, Zt, Zf, Zn, Zo, box_sl ht.c, rw0, iN, hbit, wr (n := (v : Int) + 1), d1]
     ·rw [if_neg (by simp), List.nil_append]; exact d6
  obtain ⟨H', rest', b1, b2, b3, b4, b5, b6⟩ := loop 4 1 k H rest fl (by omega) (by omega) (by omega) hr hp ht hv hfl hm ho
  refine ⟨H', rest', ?_, b2, b3, b4, b5, b6⟩
  simp (disch := omega) only [impl_ruleMasks_1.f, dt, df, bt, bf, nt, nf, Za, Zy, Zx, Zt, Zf, Zn, Zz, Zi, Zo, wr, AV.toB, AV.toI, AV.toS, if_true, box_sl ht.c]
  exact b1
def NilOr (H0 H : Hp) (t : Sl) (l : List Int) : Prop := (t = Sl.none ∧ l = []) ∨ Own 1 H0 H t (l.map (.int .i64))
theorem NilOr.reads {H0 H : Hp} {t : Sl} {l : List Int} (h : NilOr H0 H t l) : Reads .i64 H t l := by
 rcases h with ⟨h1, h2⟩ | h
 ·subst h1; subst h2; exact reads_nil rfl
 ·exact own_reads h
theorem NilOr.pf {H0 H H' : Hp} {t : Sl} {l : List Int} (h : NilOr H0 H t l) (g : H <+: H') : NilOr H0 H' t l := by
 rcases h with h | h
 ·exact .inl h
 ·exact .inr (own_pf h g)
theorem NilOr.base {H0 H1 H : Hp} {t : Sl} {l : List Int} (h : NilOr H1 H t l) (g : H0 <+: H1) : NilOr H0 H t l := by
 rcases h with h | h
 ·exact .inl h
 ·exact .inr (own_base h g)
theorem NilOr.nn {H0 H : Hp} {t : Sl} {l : List Int} (h : NilOr H0 H t l) (hl : l ≠ []) : t.nil = false := by
 rcases h with ⟨_, h⟩ | h
 ·exact absurd h hl
 ·exact h.nn
theorem all_getD {p : Int → Bool} {l : List Int} {i : Nat} (h : i < l.length) : (l.drop i).all p = (p (l.getD i 0) && (l.drop (i + 1)).all p) := by
 rw [List.drop_eq_getElem_cons h, List.all_cons, List.getD_eq_getElem?_getD, List.getElem?_eq_getElem h]; rfl
theorem tab_andnot : ∀ n : Nat, n < 5 → ∀ m : Nat, m < 64 → (n < 2 ∨ ((IntKind.i64.wrap (((BitVec.ofInt IntKind.i64.bits ((m : Nat) : Int) &&& ~~~(BitVec.ofInt IntKind.i64.bits (topMask n))).toNat : Int))) != 0) = !maskOk n m) := by decide +kernel
theorem implMasksValid_l2 {k : Nat} (hk : 1 ≤ k) {n : Int} (hn : 2 ≤ n ∧ n ≤ 4) {H : Hp} {s : Sl} {l : List Int} (hs : Reads .i64 H s l) (hl : l.length ≤ 1000) (hr : ∀ m ∈ l, -2 ≤ m ∧ m ≤ 63) :
  ∀ (j i fuel : Nat), i + j = l.length → j < fuel → impl_MasksValid.l2 (callF PP orc k) k fuel n s (l.length : Int) i H = some (.bool ((l.drop i).all (maskOk n)), H) := by
 have hsl := hs.len
 intro j
 induction j with
 | zero =>
  intro i fuel hi hf
  obtain ⟨fuel, rfl⟩ := Zs fuel (by omega)
  rw [List.drop_eq_nil_of_le (by omega)]
  simp (disch := omega) only [impl_MasksValid.l2, dt, df, bt, bf, nt, nf, Za, Zy, Zx, Zt, Zf, Zn, Zz, Zi, Zo, wr, AV.toB, AV.toI, AV.toS, if_true, List.all_nil]
 | succ j ih =>
  intro i fuel hi hf
  obtain ⟨fuel, rfl⟩ := Zs fuel (by omega)
  have hi2 : i < l.length := by omega
  have hm := hr _ (mem_getD hi2)
  have d1 := ih (i + 1) fuel (by omega) (by omega)
  push_cast at d1
  rw [all_getD hi2]
  by_cases c : l.getD i 0 < 0
  ·have e : maskOk n (l.getD i 0) = false := by
    rw [Bool.eq_false_iff]; intro h; have := (maskOk_iff.1 h).1; omega
   rw [e, Bool.false_and]
   simp (disch := omega) only [impl_MasksValid.l2, impl_MasksValid.j3, dt, df, bt, bf, nt, nf, Za, Zy, Zx, Zt, Zf, Zn, Zz, Zi, Zo, wr, AV.toB, AV.toI, AV.toS, if_true, rdn hs]
  ·have ht := tab_andnot n.toNat (by omega) (l.getD i 0).toNat (by omega)
   rw [show ((n.toNat : Nat) : Int) = n by omega, show (((l.getD i 0).toNat : Nat) : Int) = l.getD i 0 by omega] at ht
   have ht' := ht.resolve_left (by omega)
   cases e : maskOk n (l.getD i 0) with
   | false =>
    rw [e] at ht'
    simp (disch := omega) only [impl_MasksValid.l2, impl_MasksValid.j3, dt, df, bt, bf, nt, nf, Za, Zy, Zx, Zt, Zf, Zn, Zz, Zi, Zo, wr, AV.toB, AV.toI, AV.toS, if_true, rdn hs, allValues_ok hk hn, ht', Bool.false_and]
   | true =>
    rw [e] at ht'
    simp (disch := omega) only [impl_MasksValid.l2, impl_MasksValid.j3, impl_MasksValid.j4, dt, df, bt, bf, nt, nf, Za, Zy, Zx, Zt, Zf, Zn, Zz, Zi, Zo, wr, AV.toB, AV.toI, AV.toS, if_true, rdn hs, allValues_ok hk hn, ht', Bool.true_and, d1]
theorem implMasksValid_ok {k : Nat} (hk : 2000000 ≤ k) {n : Int} (hb : -1 ≤ n ∧ n ≤ 5) {H : Hp} {s : Sl} {l : List Int} (hs : Reads .i64 H s l) (hl : l.length ≤ 1000) (hr : ∀ m ∈ l, -2 ≤ m ∧ m ≤ 63) :
  callF PP orc k impl_MasksValid.id [.sl 1 s, .int .i64 n] H = some (.bool (masksOk n l), H) := by
 obtain ⟨k, rfl⟩ := Zs k (by omega)
 rw [impl_MasksValid.call]
 have hsl := hs.len
 have h1 := sizeOk_ok (show 1 ≤ k by omega) n H
 have h7 := n7 hb
 unfold masksOk
 by_cases hn : 2 ≤ n ∧ n ≤ 4
 ·rw [decide_eq_true hn] at h1 ⊢
  by_cases c : (l.length : Int) = n * n
  ·have d1 := implMasksValid_l2 (show 1 ≤ k by omega) hn hs hl hr l.length 0 k (by omega) (by omega)
   simp only [Int.natCast_zero, List.drop_zero] at d1
   rw [decide_eq_true c, Bool.and_true, Bool.true_and]
   simp (disch := omega) only [impl_MasksValid.f, impl_MasksValid.j0, impl_MasksValid.j1, dt, df, bt, bf, nt, nf, Za, Zy, Zx, Zt, Zf, Zn, Zz, Zi, Zo, wr, AV.toB, AV.toI, AV.toS, if_true, h1, hsl, wr (n := n * n), nf c, d1]
  ·rw [decide_eq_false c, Bool.and_false, Bool.and_false]
   simp (disch := omega) only [impl_MasksValid.f, impl_MasksValid.j0, impl_MasksValid.j1, dt, df, bt, bf, nt, nf, Za, Zy, Zx, Zt, Zf, Zn, Zz, Zi, Zo, wr, AV.toB, AV.toI, AV.toS, if_true, h1, hsl, wr (n := n * n), nt c]
 ·rw [decide_eq_false hn] at h1 ⊢
  rw [Bool.false_and]
  simp only [impl_MasksValid.f, impl_MasksValid.j0, dt, df, bt, bf, nt, nf, Za, Zy, Zx, Zt, Zf, Zn, Zz, Zi, Zo, wr, AV.toB, AV.toI, AV.toS, if_true, h1]
def inB (l g : List Int) : Nat → Nat → Bool
 | _, 0 => true
 | i, j + 1 => has (l.getD i 0) (g.getD i 0).toNat && inB l g (i + 1) j
theorem inB_iff (l g : List Int) : ∀ (j i : Nat), inB l g i j = true ↔ ∀ x, i ≤ x → x < i + j → has (l.getD x 0) (g.getD x 0).toNat = true
 | 0, i => by simp [inB]; intro x h1 h2; omega
 | j + 1, i => by
  rw [inB, Bool.and_eq_true, inB_iff l g j (i + 1)]
  constructor
  ·rintro ⟨h1, h2⟩ x h3 h4
   by_cases e : x = i
   ·rw [e]; exact h1
   ·exact h2 x (by omega) (by omega)
  ·intro h; exact ⟨h i (by omega) (by omega), fun x h1 h2 => h x (by omega) (by omega)⟩
def haveV (n : Int) (l g : List Int) : Bool := masksOk n l && (gridOk g n && inB l g 0 g.length)
theorem haveV_iff {n : Int} {l g : List Int} : haveV n l g = true ↔ masksOk n l = true ∧ gridOk g n = true ∧ InM l g := by
 unfold haveV InM
 rw [Bool.and_eq_true, Bool.and_eq_true, inB_iff]
 constructor
 ·rintro ⟨a, b, c⟩; exact ⟨a, b, fun i hi => c i (by omega) (by omega)⟩
 ·rintro ⟨a, b, c⟩; exact ⟨a, b, fun i _ hi => c i (by omega)⟩
theorem have_full {n : Int} {l g : List Int} (hl : masksOk n l = true) (hg : gridOk g n = true) (h : InM l g) : full g := fun i hi => (maskVals_mem (h.mem hl hg hi)).1
theorem gr {g : List Int} {n : Int} (hg : gridOk g n = true) {i : Nat} (hi : i < g.length) : 0 ≤ g.getD i 0 ∧ g.getD i 0 ≤ 4 := by
 obtain ⟨h1, _, h3⟩ := (gridOk_iff g n).1 hg
 have := h3 _ (mem_getD hi)
 omega
theorem implHave_l2 (rec : Rec) (k : Nat) {H : Hp} {ms xs : Sl} {l g : List Int} {n : Int} (hm : Reads .i64 H ms l) (hx : Reads .i64 H xs g) (hl : masksOk n l = true) (hg : gridOk g n = true) :
  ∀ (j i fuel : Nat), i + j = g.length → j < fuel → impl_MasksHave.l2 rec k fuel ms xs (g.length : Int) i H = some (.bool (inB l g i j), H) := by
 have hml := hm.len
 have hxl := hx.len
 have hlen := square_len hl hg
 have h16 := gridOk_len hg
 have hM := masks_M hl
 intro j
 induction j with
 | zero =>
  intro i fuel hi hf
  obtain ⟨fuel, rfl⟩ := Zs fuel (by omega)
  simp (disch := omega) only [impl_MasksHave.l2, dt, df, bt, bf, nt, nf, Za, Zy, Zx, Zt, Zf, Zn, Zz, Zi, Zo, wr, AV.toB, AV.toI, AV.toS, if_true, inB]
 | succ j ih =>
  intro i fuel hi hf
  obtain ⟨fuel, rfl⟩ := Zs fuel (by omega)
  obtain ⟨v0, v4⟩ := gr hg (show i < g.length by omega)
  have d1 := ih (i + 1) fuel (by omega) (by omega)
  push_cast at d1
  have hb := m_bit0' (hM.at i) v0 (show g.getD i 0 ≤ 5 by omega)
  rw [inB]
  cases e : has (l.getD i 0) (g.getD i 0).toNat with
  | true =>
   rw [e] at hb
   simp (disch := omega) only [impl_MasksHave.l2, dt, Za, Zy, Zt, Zf, Zn, Zo, rdn hm, rdn hx, iN, hb, wr (n := (i : Int) + 1), d1, Bool.true_and]
  | false =>
   rw [e] at hb
   simp (disch := omega) only [impl_MasksHave.l2, dt, Za, Zx, Zt, Zf, Zn, Zo, rdn hm, rdn hx, iN, hb, Bool.false_and]
theorem implMasksHave_ok {k : Nat} (hk : 2000010 ≤ k) {H : Hp} {ms xs : Sl} {l g : List Int} {n : Int} (hb : -1 ≤ n ∧ n ≤ 5) (hm : Reads .i64 H ms l) (hx : Reads .i64 H xs g) (hl : l.length ≤ 1000) (hr : ∀ m ∈ l, -2 ≤ m ∧ m ≤ 63) (hgl : g.length ≤ 1000) :
  callF PP orc k impl_MasksHave.id [.sl 1 ms, .int .i64 n, .sl 1 xs] H = some (.bool (haveV n l g), H) := by
 obtain ⟨k, rfl⟩ := Zs k (by omega)
 rw [impl_MasksHave.call]
 have h1 := implMasksValid_ok (show 2000000 ≤ k by omega) hb hm hl hr
 have h2 := implGridValid_ok (show 2000000 ≤ k by omega) hx (by omega) n
 have h3 := implGridFilled_ok (show 2000001 ≤ k by omega) hx (by omega) n
 have hxl := hx.len
 unfold haveV
 cases e1 : masksOk n l with
 | false =>
  rw [e1] at h1
  simp only [impl_MasksHave.f, impl_MasksHave.j0, dt, df, bt, bf, nt, nf, Za, Zy, Zx, Zt, Zf, Zn, Zz, Zi, Zo, wr, AV.toB, AV.toI, AV.toS, if_true, h1, Bool.false_and]
 | true =>
  rw [e1] at h1
  cases e2 : gridOk g n with
  | false =>
   rw [e2] at h2
   simp only [impl_MasksHave.f, impl_MasksHave.j0, dt, df, bt, bf, nt, nf, Za, Zy, Zx, Zt, Zf, Zn, Zz, Zi, Zo, wr, AV.toB, AV.toI, AV.toS, if_true, h1, h2, Bool.false_and, Bool.and_false]
  | true =>
   rw [e2] at h2 h3
   rw [ip rfl] at h3
   by_cases c : (filled g : Int) = (g.length : Int)
   ·have d1 := implHave_l2 (callF PP orc k) k hm hx e1 e2 g.length 0 k (by omega) (by omega)
    simp only [Int.natCast_zero] at d1
    simp only [impl_MasksHave.f, impl_MasksHave.j0, impl_MasksHave.j1, dt, df, bt, bf, nt, nf, Za, Zy, Zx, Zt, Zf, Zn, Zz, Zi, Zo, wr, AV.toB, AV.toI, AV.toS, if_true, h1, h2, h3, hxl, nf c, Bool.true_and, d1]
   ·have e : inB l g 0 g.length = false := by
     rw [Bool.eq_false_iff]
     intro h
     apply c
     have hf : full g := have_full e1 e2 fun i hi => (inB_iff l g _ _).1 h i (by omega) (by omega)
     rw [filled_eq.2 hf]
    rw [e]
    simp only [impl_MasksHave.f, impl_MasksHave.j0, dt, df, bt, bf, nt, nf, Za, Zy, Zx, Zt, Zf, Zn, Zz, Zi, Zo, wr, AV.toB, AV.toI, AV.toS, if_true, h1, h2, h3, hxl, nt c, Bool.true_and]




def seenC (seen : List Int) : List AV := (List.range 5).map fun (v : Nat) => .bool (seen.contains (v : Int))
theorem seen_set (seen : List Int) (v : Nat) (hv : v < 5) : (seenC seen).take v ++ [.bool true] ++ (seenC seen).drop (v + 1) = seenC ((v : Int) :: seen) := by
 apply List.ext_getElem?
 intro i
 have h0 : (seenC seen).length = 5 := by simp [seenC]
 have e : (seenC seen).take v ++ [.bool true] ++ (seenC seen).drop (v + 1) = (seenC seen).set v (.bool true) := by
  rw [List.set_eq_take_append_cons_drop, if_pos (by omega)]; simp
 rw [e]
 by_cases hi : i = v
 ·subst hi
  rw [List.getElem?_set_self (by omega)]
  simp [seenC, hv]
 ·rw [List.getElem?_set_ne (by omega)]
  by_cases h5 : i < 5
  ·simp [seenC, h5, hi]
   intro e'; omega
  ·rw [List.getElem?_eq_none (by omega), List.getElem?_eq_none (by simp [seenC]; omega)]
theorem reads_ne {H : Hp} {s : Sl} {l : List Int} {k : IntKind} {b : Nat} {seen : List Int} (hr : Reads k H s l) (hl : l ≠ []) (hb : H[b]? = some (some ⟨false, seenC seen⟩)) : s.blk ≠ b := by
 intro e
 have h0 : 0 < l.length := List.length_pos_iff.2 hl
 have := hr.cell 0 h0
 unfold Hp.cell at this
 rw [e, hb] at this
 simp only at this
 have hm := List.mem_of_getElem? this
 unfold seenC at hm
 obtain ⟨v, _, hv⟩ := List.mem_map.1 hm
 cases hv
theorem But.reads' {b : Nat} {H H' : Hp} (h : But b H H') {k : IntKind} {s : Sl} {l : List Int} {seen : List Int} (hb : H[b]? = some (some ⟨false, seenC seen⟩)) (hr : Reads k H s l) : Reads k H' s l := by
 by_cases hl : l = []
 ·subst hl; exact reads_nil hr.len
 ·exact h.reads (reads_ne hr hl hb) hr
theorem implSquareFits_l1 (rec : Rec) (k : Nat) (L0 : Sl → Int → Int → Int → Hp → An) {H0 : Hp} {s t : Sl} {g cells : List Int} {n top line : Int} {b : Nat} (hs : Reads .i64 H0 s g)
  (hc : ∀ c ∈ cells, 0 ≤ c ∧ c < (g.length : Int)) (hg : ∀ v ∈ g, 0 ≤ v ∧ v ≤ 4) (hl : cells.length ≤ 1000) (hline : IntKind.i64.wrap (line + 1) = line + 1) :
  ∀ (j i fuel : Nat) (H : Hp) (seen : List Int), i + j = cells.length → j < fuel → H0 <+: H → Own 1 H0 H (Sl.mk false b 0 5) (seenC seen) → Reads .i64 H t cells →
   ∃ H', H0 <+: H' ∧ impl_SquareFits.l1 rec k L0 fuel s n b 0 top line t cells.length i H = bif clashL g (cells.drop i) seen then some (.bool false, H') else L0 s n top (line + 1) H' := by
 intro j
 induction j with
 | zero =>
  intro i fuel H seen hi hf hp ho ht
  obtain ⟨fuel, rfl⟩ := Zs fuel (by omega)
  refine ⟨H, hp, ?_⟩
  simp [impl_SquareFits.l1, impl_SquareFits.j3, show ¬ i < cells.length by omega, List.drop_eq_nil_of_le (show cells.length ≤ i by omega), clashL, hline]
 | succ j ih =>
  intro i fuel H seen hi hf hp ho ht
  obtain ⟨fuel, rfl⟩ := Zs fuel (by omega)
  have h1 := ht.len
  have h2 : i < cells.length := by omega
  have h3 := reads_at ht i h2
  have h4 := wrs (i := i) (by omega)
  obtain ⟨c0, c1⟩ := hc _ (List.getElem_mem h2)
  have h5 := gv_at (pf_reads hp hs) c0 c1
  obtain ⟨v0, v1⟩ := hg _ (gv_mem c0 c1)
  rw [List.drop_eq_getElem_cons h2]
  simp only [clashL]
  obtain ⟨v, hv⟩ := Int.eq_ofNat_of_zero_le v0
  rw [hv] at h5 ⊢
  have hv5 : v < 5 := by omega
  have hsl := hs.len
  obtain ⟨H1, a1, a2, a3, a4, a5⟩ := own_sto ho hp v [.bool true] (by simp [seenC]; omega)
  rw [show v + [AV.bool true].length = v + 1 from rfl, seen_set seen v hv5] at a3
  simp only [Nat.zero_add] at a1
  obtain ⟨H', b1, b2⟩ := ih (i + 1) fuel H1 ((v : Int) :: seen) (by omega) (by omega) a2 a3 (a4.reads' ho.get ht)
  rw [show ((i + 1 : Nat) : Int) = (i : Int) + 1 by omega] at b2
  have q1 : ((i : Int) < (t.len : Int)) := by omega
  have q2 : ((i : Int) < (cells.length : Int)) := by omega
  have q0 : (0 : Int) ≤ (i : Int) := by omega
  have z0 : (0 : Int) ≤ (v : Int) := by omega
  have z3 : (v : Int) < ((5 : Nat) : Int) := by omega
  have c1' : cells[i] < (s.len : Int) := by omega
  have hld : ldB H b v = some (seen.contains (v : Int)) := by
   have := own_cell ho v
   simp only [Nat.zero_add] at this
   unfold ldB
   rw [this]
   simp [seenC, hv5, AV.toB]
  by_cases hp' : 0 < v
  ·have z1 : ((v : Int) > 0) := by omega
   have z2 : (0 : Int) < (v : Int) := z1
   cases hse' : seen.contains (v : Int) with
   | true =>
    rw [hse'] at hld
    refine ⟨H, hp, ?_⟩
    simp only [impl_SquareFits.l1, impl_SquareFits.j2, impl_SquareFits.j4, impl_SquareFits.j5, q0, q1, q2, c0, c1', z0, z1, z2, z3, decide_true, Za, Zt, Zf, Zn, Nat.mul_one, Nat.zero_add, h3, h5, Zo, hld, Bool.true_or]
   | false =>
    rw [hse'] at hld
    refine ⟨H', b1, ?_⟩
    simp only [impl_SquareFits.l1, impl_SquareFits.j2, impl_SquareFits.j4, impl_SquareFits.j5, q0, q1, q2, c0, c1', z0, z1, z2, z3, decide_true, Za, Bool.and_false, Zt, Zf, Zn, Nat.mul_one, Nat.zero_add, h3, h5, Zo, hld, Bool.false_or, a1, h4, b2]
  ·have z1 : ¬ ((v : Int) > 0) := by omega
   have z2 : ¬ (0 : Int) < (v : Int) := z1
   refine ⟨H', b1, ?_⟩
   simp only [impl_SquareFits.l1, impl_SquareFits.j2, impl_SquareFits.j4, impl_SquareFits.j5, q0, q1, q2, c0, c1', z0, z1, z2, z3, decide_true, decide_false, Za, Bool.false_and, Zt, Zf, Zn, Nat.mul_one, Nat.zero_add, h3, h5, Zo, Bool.false_or, a1, h4, b2]
theorem implSquareFits_l0 {k : Nat} (hk : 2000000 ≤ k) {H0 : Hp} {s : Sl} {g : List Int} {n : Int} (hs : Reads .i64 H0 s g) (hg : gridOk g n = true) :
  ∀ (j fuel line : Nat) (H : Hp), (line : Int) + j = 2 * n → j < fuel → H0 <+: H →
   ∃ H', impl_SquareFits.l0 (callF PP orc k) k fuel s n (2 * n) line H = some (.bool (!clashFrom g n line j), H') ∧ H0 <+: H' := by
 obtain ⟨⟨n1, n2⟩, n3, n4⟩ := (gridOk_iff g n).1 hg
 intro j
 induction j with
 | zero =>
  intro fuel line H hl hf hp
  obtain ⟨fuel, rfl⟩ := Zs fuel (by omega)
  refine ⟨H, ?_, hp⟩
  have : ¬ ((line : Int) < 2 * n) := by omega
  simp only [impl_SquareFits.l0, this, decide_false, Zf, clashFrom, Zx]
 | succ j ih =>
  intro fuel line H hl hf hp
  obtain ⟨fuel, rfl⟩ := Zs fuel (by omega)
  have q1 : ((line : Int) < 2 * n) := by omega
  have hnew := own_base (own_new 1 H [.bool false, .bool false, .bool false, .bool false, .bool false] 5 rfl) hp
  obtain ⟨H1, a1, a2, a3, a4, a5⟩ := own_sto hnew (hp.trans (List.prefix_append _ _)) 0 [.bool false, .bool false, .bool false, .bool false, .bool false] (by simp)
  obtain ⟨t, H2, e1, e2, e3⟩ := implLineCells_ok hk n line H1
  have hseen : Own 1 H0 H1 (Sl.mk false H.length 0 5) (seenC []) := a3
  obtain ⟨H3, b1, b2⟩ := implSquareFits_l1 (callF PP orc k) k (impl_SquareFits.l0 (callF PP orc k) k fuel) (line := line) (n := n) (top := 2 * n) hs (fun c hc => by rw [n3]; exact lineCells_mem hc) (fun v hv => ⟨(n4 v hv).1, by have := (n4 v hv).2; omega⟩)
   (by have := lineCells_len n line; omega) (wr (by omega) (by omega)) (lineCells n line).length 0 k H2 [] (by omega) (by have := lineCells_len n line; omega) (a2.trans e2) (own_pf hseen e2) e3
  simp only [List.drop_zero, Int.natCast_zero] at b2
  simp only [Nat.zero_add] at a1
  have hlen := e3.len
  have a1' : (H ++ [some (Blk.mk false [.bool false, .bool false, .bool false, .bool false, .bool false])]).sto H.length 0 [.bool false, .bool false, .bool false, .bool false, .bool false] = some H1 := a1
  cases hc : clashL g (lineCells n line) [] with
  | true =>
   refine ⟨H3, ?_, b1⟩
   simp only [hc, Zt] at b2
   simp only [impl_SquareFits.l0, q1, decide_true, Zt, a1', e1, Zo, AV.toS, if_true, clashFrom, hc, Bool.true_or, Zy, hlen]
   exact b2
  | false =>
   obtain ⟨H', c1, c2⟩ := ih fuel (line + 1) H3 (by omega) (by omega) b1
   push_cast at c1
   refine ⟨H', ?_, c2⟩
   simp only [hc, Zf] at b2
   simp only [impl_SquareFits.l0, q1, decide_true, Zt, a1', e1, Zo, AV.toS, if_true, clashFrom, hc, Bool.false_or, hlen]
   exact b2.trans c1
theorem implSquareFits_ok {k : Nat} (hk : 2000001 ≤ k) {H : Hp} {s : Sl} {g : List Int} (n : Int) (hs : Reads .i64 H s g) (hl : g.length ≤ 1048576) :
  ∃ H', callF PP orc k impl_SquareFits.id [.sl 1 s, .int .i64 n] H = some (.bool (squareFits g n), H') ∧ H <+: H' := by
 obtain ⟨k, rfl⟩ := Zs k (by omega)
 rw [impl_SquareFits.call]
 have h1 := implGridValid_ok (show 2000000 ≤ k by omega) hs hl n
 cases hg : gridOk g n with
 | true =>
  obtain ⟨⟨n1, n2⟩, n3, n4⟩ := (gridOk_iff g n).1 hg
  have hw : IntKind.i64.wrap (2 * n) = 2 * n := wr (by omega) (by omega)
  obtain ⟨H', a1, a2⟩ := implSquareFits_l0 (show 2000000 ≤ k by omega) hs hg (2 * n).toNat k 0 H (by omega) (by omega) (List.prefix_refl _)
  refine ⟨H', ?_, a2⟩
  simp only [impl_SquareFits.f, h1, hg, Zo, AV.toB, Zy, Zf, hw, squareFits, Bool.true_and]
  exact a1
 | false => exact ⟨H, by simp only [impl_SquareFits.f, h1, hg, Zo, AV.toB, Zx, Zt, squareFits, Bool.false_and], List.prefix_refl _⟩
theorem get_new (L : Hp) (x : Option Blk) : (L ++ [x])[L.length]? = some x := by simp
theorem implruleMasks_ok {k : Nat} (hk : 2000030 ≤ k) {kind value : Int} {cs ws : Sl} {H : Hp} {own : List Int} (hw : Reads .i64 H ws own) (hol : own.length ≤ 4) (hom : ∀ m ∈ own, (0 ≤ m ∧ m ≤ 30) ∧ m.tmod 2 = 0) (hk2 : KindLen kind own.length) :
  ∃ t H', callF PP orc k impl_ruleMasks.id [.agg [.int .i64 kind, .sl 1 cs, .int .i64 value], .sl 1 ws] H = some (.sl 1 t, H') ∧ H <+: H' ∧ Own 1 H H' t ((ruleMasksV kind value own).map (.int .i64)) := by
 obtain ⟨k, rfl⟩ := Zs k (by omega)
 rw [impl_ruleMasks.call]
 have hwl := hw.len
 obtain ⟨Ha, hHa⟩ : ∃ X, H ++ [some (Blk.mk false [.int .i64 kind, .sl 1 cs, .int .i64 value])] = X := ⟨_, rfl⟩
 obtain ⟨Hb, hHb⟩ : ∃ X, Ha ++ [some (Blk.mk false [.sl 1 ws])] = X := ⟨_, rfl⟩
 obtain ⟨Hc, hHc⟩ : ∃ X, Hb ++ [some (Blk.mk false ((List.replicate own.length (0 : Int)).map (.int .i64)))] = X := ⟨_, rfl⟩
 obtain ⟨Hd, hHd⟩ : ∃ X, Hc ++ [some (Blk.mk false [.sl 1 Sl.none])] = X := ⟨_, rfl⟩
 have la : Ha.length = H.length + 1 := by rw [← hHa]; simp
 have lb : Hb.length = H.length + 2 := by rw [← hHb]; simp [la]
 have lc : Hc.length = H.length + 3 := by rw [← hHc]; simp [lb]
 have ld : Hd.length = H.length + 4 := by rw [← hHd]; simp [lc]
 have pa : H <+: Ha := by rw [← hHa]; exact (List.prefix_append _ _)
 have pb : Ha <+: Hb := by rw [← hHb]; exact (List.prefix_append _ _)
 have pc : Hb <+: Hc := by rw [← hHc]; exact (List.prefix_append _ _)
 have pd : Hc <+: Hd := by rw [← hHd]; exact (List.prefix_append _ _)
 have ga : Ha[H.length]? = some (some (Blk.mk false [.int .i64 kind, .sl 1 cs, .int .i64 value])) := by rw [← hHa]; exact get_new _ _
 have gb : Hb[Ha.length]? = some (some (Blk.mk false [.sl 1 ws])) := by rw [← hHb]; exact get_new _ _
 have gc : Hc[Hb.length]? = some (some (Blk.mk false ((List.replicate own.length (0 : Int)).map (.int .i64)))) := by rw [← hHc]; exact get_new _ _
 have gd : Hd[Hc.length]? = some (some (Blk.mk false [.sl 1 Sl.none])) := by rw [← hHd]; exact get_new _ _
 obtain ⟨H2, a1, a2, a3, a4⟩ := sto1' gd (.sl 1 (Sl.mk false Hb.length 0 own.length))
 obtain ⟨He, hHe⟩ : ∃ X, H2 ++ [some (Blk.mk false ((List.replicate own.length (0 : Int)).map (.int .i64)))] = X := ⟨_, rfl⟩
 obtain ⟨Hf, hHf⟩ : ∃ X, He ++ [some (Blk.mk false [.sl 1 Sl.none])] = X := ⟨_, rfl⟩
 have le : He.length = H.length + 5 := by rw [← hHe]; simp; omega
 have lf : Hf.length = H.length + 6 := by rw [← hHf]; simp [le]
 have pe : H2 <+: He := by rw [← hHe]; exact (List.prefix_append _ _)
 have pf : He <+: Hf := by rw [← hHf]; exact (List.prefix_append _ _)
 have ge : He[H2.length]? = some (some (Blk.mk false ((List.replicate own.length (0 : Int)).map (.int .i64)))) := by rw [← hHe]; exact get_new _ _
 have gf : Hf[He.length]? = some (some (Blk.mk false [.sl 1 Sl.none])) := by rw [← hHf]; exact get_new _ _
 obtain ⟨H4, b1, b2, b3, b4⟩ := sto1' gf (.sl 1 (Sl.mk false H2.length 0 own.length))
 obtain ⟨Hg, hHg⟩ : ∃ X, H4 ++ [some (Blk.mk false [.nilf])] = X := ⟨_, rfl⟩
 have lg : Hg.length = H.length + 7 := by rw [← hHg]; simp; omega
 have pg : H4 <+: Hg := by rw [← hHg]; exact (List.prefix_append _ _)
 have gg : Hg[H4.length]? = some (some (Blk.mk false [.nilf])) := by rw [← hHg]; exact get_new _ _
 obtain ⟨H5, c1, c2, c3, c4⟩ := sto1' gg (.fn impl_ruleMasks_1.id [.ptr Ha.length 0, .ptr H.length 0, .ptr He.length 0, .ptr Hc.length 0, .ptr H4.length 0])
 -- what lies where in the end
 have up : ∀ {d : Nat} {x : Blk}, d ≠ Hc.length → Hd[d]? = some (some x) → H2[d]? = some (some x) := fun h h' => a3 _ _ h h'
 have up4 : ∀ {d : Nat} {x : Blk}, d ≠ He.length → H2[d]? = some (some x) → H4[d]? = some (some x) := fun h h' => b3 _ _ h (pf_get (pe.trans pf) h')
 have up5 : ∀ {d : Nat} {x : Blk}, d ≠ H4.length → H4[d]? = some (some x) → H5[d]? = some (some x) := fun h h' => c3 _ _ h (pf_get pg h')
 have hr5 := up5 (by omega) (up4 (by omega) (up (by omega) (pf_get (pb.trans (pc.trans pd)) ga)))
 have hb2 := up (by omega) (pf_get (pc.trans pd) gb)
 have hb5 := up5 (by omega) (up4 (by omega) hb2)
 have hc5 := up5 (by omega) (up4 (by omega) (up (by omega) (pf_get pd gc)))
 have ho5 := up5 (by omega) (up4 (by omega) a2)
 have hv5 := up5 (by omega) (b3 _ _ (by omega) (pf_get pf ge))
 have hvb5 := up5 (by omega) b2
 have p5 : H <+: H5 := by
  have q2 : H <+: H2 := a3.pf (by omega) (pa.trans (pb.trans (pc.trans pd))) (by omega)
  have q4 : H <+: H4 := b3.pf (by omega) (q2.trans (pe.trans pf)) (by omega)
  exact c3.pf (by omega) (q4.trans pg) (by omega)
 have ht : Try H5 Ha.length H.length He.length Hc.length H4.length kind value cs ws (Sl.mk false H2.length 0 own.length) (Sl.mk false Hb.length 0 own.length) :=
  ⟨hb5, hr5, hvb5, ho5, c2, by simp only; omega⟩
 obtain ⟨H', rest', d1, d2, d3, d4, d5, d6⟩ := Try_ok (B := H) (value := value) hw hol hom hk2 (vs := Sl.mk false H2.length 0 own.length) (os := Sl.mk false Hb.length 0 own.length) (by simp only; omega) own.length k (by omega) H5 [] (List.replicate own.length 0) (List.replicate own.length 0) (by simp) (by simp) p5 ht
  ⟨rfl, rfl, by simp only; omega, by simpa using hv5, by simp⟩ ⟨by simp, fun v hv => by cases hv⟩ (by simp) (Ms.zeros _) ⟨rfl, rfl, by simp only; omega, hc5, by simp⟩
 have ht' := ht.adv d4
 refine ⟨Sl.mk false Hb.length 0 own.length, H', ?_, d3, by simpa [ruleMasksV] using d6⟩
 have l1 : ldS 1 Hb Ha.length 0 = some ws := box_sl gb
 have l2 : ldS 1 H2 Ha.length 0 = some ws := box_sl hb2
 have l3 : ldF H5 H4.length 0 = some (impl_ruleMasks_1.id, [.ptr Ha.length 0, .ptr H.length 0, .ptr He.length 0, .ptr Hc.length 0, .ptr H4.length 0]) := by unfold ldF Hp.cell; rw [c2]; simp [AV.toF]
 have l4 := box_sl ht'.o
 simp only [Zm, Int.natCast_zero] at d1
 simp only [impl_ruleMasks.f, hHa, hHb, l1, Zo]
 rw [ip (by omega)]
 simp only [hwl, Zn, flat0s, hHc, hHd, a1, Zo, l2]
 rw [ip (by omega)]
 simp only [hwl, Zn, flat0s, hHe, hHf, b1, Zo, hHg, c1, l3, okTry, List.cons_append, List.nil_append, List.all_cons, List.all_nil, AV.glob, AV.cell, Za, Zt, d1, l4]
theorem kindLen_of {n kind value : Int} {m : Nat} (h : kindOk n kind value m = true) : KindLen kind m := by
 unfold kindOk at h
 unfold KindLen
 split at h
 ·omega
 ·split at h
  ·omega
  ·split at h
   ·simp only [decide_eq_true_eq] at h; omega
   ·split at h
    ·simp only [decide_eq_true_eq] at h; omega
    ·cases h
theorem ownOf_even {n : Int} {masks cells : List Int} (hm : masksOk n masks = true) (hc : ∀ c ∈ cells, 0 ≤ c ∧ c < (masks.length : Int)) : ∀ m ∈ ownOf masks cells, (0 ≤ m ∧ m ≤ 30) ∧ m.tmod 2 = 0 := fun m h => by
 obtain ⟨c, hc', rfl⟩ := List.mem_map.1 h
 obtain ⟨c0, c1⟩ := hc c hc'
 have := (masksOk_iff.1 hm).2.1 _ (gv_mem c0 c1)
 unfold maskOk at this
 simp only [Bool.and_eq_true, decide_eq_true_eq, beq_iff_eq] at this
 have ht := topMask_le n
 omega
/-! ### impl.canHold -/
theorem canHold_l0 {k : Nat} (hk : 2000040 ≤ k) {n kind value : Int} {cs xs : Sl} {H0 : Hp} {cells g : List Int} (hc : Reads .i64 H0 cs cells) (hx : Reads .i64 H0 xs g) (hr : ruleOk n kind cells value = true) (hg : gridOk g n = true) :
  ∀ (j i fuel : Nat) (H : Hp) (t : Sl), i + j = cells.length → j < fuel → H0 <+: H → Own 1 H0 H t ((ownOf (openOf n g) (cells.take i)).map (.int .i64)) →
   ∃ H', impl_canHold.l0 (callF PP orc k) k fuel xs n t cs cells.length i kind cs value H = some (.bool (canHoldV n g (kind, cells, value)), H') ∧ H0 <+: H' := by
 obtain ⟨hn, g2, g3⟩ := (gridOk_iff g n).1 hg
 obtain ⟨c1, c2, c3, c4⟩ := ruleOk_cells hr
 have hcl := hc.len
 have hxl := hx.len
 have hop : (openOf n g).length = g.length := by simp [openOf]
 intro j
 induction j with
 | zero =>
  intro i fuel H t hi hf hp ho
  obtain ⟨fuel, rfl⟩ := Zs fuel (by omega)
  rw [List.take_of_length_le (by omega)] at ho
  have hkl : KindLen kind (ownOf (openOf n g) cells).length := by
   simp only [ownOf, List.length_map]
   unfold ruleOk at hr; rw [Bool.and_eq_true] at hr; exact kindLen_of hr.2
  obtain ⟨u, H1, a1, a2, a3⟩ := implruleMasks_ok (show 2000030 ≤ k by omega) (kind := kind) (value := value) (cs := cs) (own_reads ho) (by simp [ownOf]; omega) (ownOf_even (openOf_ok hg) fun c h => by have := c1 c h; omega) hkl
  refine ⟨H1, ?_, hp.trans a2⟩
  have hl : (ruleMasksV kind value (ownOf (openOf n g) cells)).length = cells.length := by
   unfold ruleMasksV
   rw [(ways_ok _ _ [] _ ⟨by simp, fun v hv => by cases hv⟩ (by simp [ownOf]; omega) (Ms.zeros _)).2]
   simp [ownOf]
  have hul := (own_reads a3).len
  have hd : (ruleMasksV kind value (ownOf (openOf n g) cells)).getD 0 0 = (ruleMasksV kind value (ownOf (openOf n g) cells)).headD 0 := by
   cases ruleMasksV kind value (ownOf (openOf n g) cells) <;> rfl
  simp (disch := omega) only [impl_canHold.l0, impl_canHold.j2, dt, df, bt, bf, nt, nf, Za, Zy, Zx, Zt, Zf, Zn, Zz, Zi, Zo, wr, AV.toB, AV.toI, AV.toS, if_true, a1, rdn (own_reads a3), hd]
  rfl
 | succ j ih =>
  intro i fuel H t hi hf hp ho
  obtain ⟨fuel, rfl⟩ := Zs fuel (by omega)
  have hi2 : i < cells.length := by omega
  have hcc := c1 _ (mem_getD hi2)
  have hlt : (cells.getD i 0).toNat < g.length := by omega
  obtain ⟨v0, v1⟩ := g3 _ (mem_getD hlt)
  have htl : t.len = i := by have := ho.len; simp [ownOf] at this; omega
  have hval : gv (openOf n g) (cells.getD i 0) = if g.getD (cells.getD i 0).toNat 0 > 0 then pw (g.getD (cells.getD i 0).toNat 0) else topMask n := by
   unfold gv openOf
   rw [List.getD_eq_getElem?_getD, List.getElem?_map, List.getElem?_eq_getElem hlt, List.getD_eq_getElem?_getD (l := g), List.getElem?_eq_getElem hlt]; rfl
  have htk : ownOf (openOf n g) (cells.take (i + 1)) = ownOf (openOf n g) (cells.take i) ++ [gv (openOf n g) (cells.getD i 0)] := by
   rw [List.take_succ_eq_append_getElem hi2]; unfold ownOf
   rw [List.map_append, List.getD_eq_getElem?_getD, List.getElem?_eq_getElem hi2]; rfl
  obtain ⟨H1, a1, a2, a3, a4, a5⟩ := own_app1 ho hp (gv (openOf n g) (cells.getD i 0)) (by omega)
  rw [← htk] at a3
  obtain ⟨H', b1, b2⟩ := ih (i + 1) fuel H1 _ (by omega) (by omega) a2 a3
  push_cast at b1
  refine ⟨H', ?_, b2⟩
  rw [hval] at a1
  by_cases c : g.getD (cells.getD i 0).toNat 0 > 0
  ·rw [ip c] at a1
   simp (disch := omega) only [impl_canHold.l0, impl_canHold.j1, dt, df, bt, bf, nt, nf, Za, Zy, Zx, Zt, Zf, Zn, Zz, Zi, Zo, wr, AV.toB, AV.toI, AV.toS, if_true, rdn (pf_reads hp hc), rdn (pf_reads hp hx), iN, m_shl v0, a1, b1]
  ·rw [iN c] at a1
   simp (disch := omega) only [impl_canHold.l0, impl_canHold.j1, dt, df, bt, bf, nt, nf, Za, Zy, Zx, Zt, Zf, Zn, Zz, Zi, Zo, wr, AV.toB, AV.toI, AV.toS, if_true, rdn (pf_reads hp hc), rdn (pf_reads hp hx), allValues_ok (show 1 ≤ k by omega) hn, a1, b1]
theorem canHold_ok {k : Nat} (hk : 2000041 ≤ k) {n kind value : Int} {cs xs : Sl} {H : Hp} {cells g : List Int} (hc : Reads .i64 H cs cells) (hx : Reads .i64 H xs g) (hr : ruleOk n kind cells value = true) (hg : gridOk g n = true) :
  ∃ H', callF PP orc k impl_canHold.id [.agg [.int .i64 kind, .sl 1 cs, .int .i64 value], .sl 1 xs, .int .i64 n] H = some (.bool (canHoldV n g (kind, cells, value)), H') ∧ H <+: H' := by
 obtain ⟨k, rfl⟩ := Zs k (by omega)
 rw [impl_canHold.call]
 have hcl := hc.len
 have := (ruleOk_cells hr).2.1
 obtain ⟨H', a1, a2⟩ := canHold_l0 (show 2000040 ≤ k by omega) hc hx hr hg cells.length 0 k (H ++ [some (Blk.mk false [])]) (Sl.mk false H.length 0 0) (by omega) (by omega) (List.prefix_append _ _) (own_new 1 H [] 0 rfl)
 refine ⟨H', ?_, a2⟩
 simp only [Int.natCast_zero] at a1
 simp only [impl_canHold.f, hcl, a1]
/-! ### impl.PuzzleFits, impl.PuzzleSolved -/
theorem implFits_l6 {k : Nat} (hk : 2000041 ≤ k) {H0 : Hp} {n : Int} {gs s xs : Sl} {given g : List Int} {rs : List R} (hz : PuzAt H0 n gs s given rs) (hro : ∀ r ∈ rs, R.ok n r = true) (hx : Reads .i64 H0 xs g) (hg : gridOk g n = true) :
  ∀ (j i fuel : Nat) (H : Hp), i + j = rs.length → j < fuel → H0 <+: H → ∃ H', impl_PuzzleFits.l6 (callF PP orc k) k fuel xs s rs.length i n gs s H = some (.bool (((rs.drop i).map R.val).all (canHoldV n g)), H') ∧ H0 <+: H' := by
 have hlen := hz.rr.len
 have hrl := hz.rl
 intro j
 induction j with
 | zero =>
  intro i fuel H hi hf hp
  obtain ⟨fuel, rfl⟩ := Zs fuel (by omega)
  refine ⟨H, ?_, hp⟩
  rw [List.drop_eq_nil_of_le (by omega), List.map_nil, List.all_nil]
  simp (disch := omega) only [impl_PuzzleFits.l6, dt, df, bt, bf, nt, nf, Za, Zy, Zx, Zt, Zf, Zn, Zz, Zi, Zo, wr, AV.toB, AV.toI, AV.toS, if_true]
 | succ j ih =>
  intro i fuel H hi hf hp
  obtain ⟨fuel, rfl⟩ := Zs fuel (by omega)
  have hi2 : i < rs.length := by omega
  obtain ⟨l0, l1, l2⟩ := rules_at1 (pf_readsR hp hz.rr) i hi2
  obtain ⟨H1, a1, a2⟩ := canHold_ok hk (pf_reads hp (hz.rr.cs i hi2)) (pf_reads hp hx) (hro _ (List.getElem_mem hi2)) hg
  obtain ⟨H', b1, b2⟩ := ih (i + 1) fuel H1 (by omega) (by omega) (hp.trans a2)
  push_cast at b1
  rw [List.drop_eq_getElem_cons hi2, List.map_cons, List.all_cons]
  have e : canHoldV n g rs[i].val = canHoldV n g (rs[i].kind, rs[i].cells, rs[i].value) := rfl
  rw [e]
  cases c : canHoldV n g (rs[i].kind, rs[i].cells, rs[i].value) with
  | true =>
   rw [c] at a1
   refine ⟨H', ?_, b2⟩
   simp (disch := omega) only [impl_PuzzleFits.l6, dt, df, bt, bf, nt, nf, Za, Zy, Zx, Zt, Zf, Zn, Zz, Zi, Zo, wr, AV.toB, AV.toI, AV.toS, if_true, l0, l1, l2, a1, b1, Bool.true_and]
  | false =>
   rw [c] at a1
   refine ⟨H1, ?_, hp.trans a2⟩
   simp (disch := omega) only [impl_PuzzleFits.l6, dt, df, bt, bf, nt, nf, Za, Zy, Zx, Zt, Zf, Zn, Zz, Zi, Zo, wr, AV.toB, AV.toI, AV.toS, if_true, l0, l1, l2, a1, Bool.false_and]
theorem implFits_l2 {k : Nat} (hk : 2000041 ≤ k) {H : Hp} {n : Int} {gs s xs : Sl} {given g : List Int} {rs : List R} (hz : PuzAt H n gs s given rs) (hro : ∀ r ∈ rs, R.ok n r = true) (hx : Reads .i64 H xs g) (hg : gridOk g n = true) (hl : given.length = g.length) :
  ∀ (j i fuel : Nat), i + j = g.length → j < fuel → ∃ H', impl_PuzzleFits.l2 (callF PP orc k) k fuel xs xs g.length i n gs s H = some (.bool (compatFrom given g i j && (rs.map R.val).all (canHoldV n g)), H') ∧ H <+: H' := by
 have hgl := hz.rg.len
 have hxl := hx.len
 have hrl := hz.rr.len
 have h16 := gridOk_len hg
 intro j
 induction j with
 | zero =>
  intro i fuel hi hf
  obtain ⟨fuel, rfl⟩ := Zs fuel (by omega)
  obtain ⟨H1, a1, a2⟩ := implFits_l6 hk hz hro hx hg rs.length 0 k H (by omega) (by have := hz.rl; omega) (List.prefix_refl _)
  simp only [Int.natCast_zero, List.drop_zero] at a1
  refine ⟨H1, ?_, a2⟩
  simp (disch := omega) only [impl_PuzzleFits.l2, impl_PuzzleFits.j4, dt, df, bt, bf, nt, nf, Za, Zy, Zx, Zt, Zf, Zn, Zz, Zi, Zo, wr, AV.toB, AV.toI, AV.toS, if_true, hrl, a1, compatFrom, Bool.true_and]
 | succ j ih =>
  intro i fuel hi hf
  obtain ⟨fuel, rfl⟩ := Zs fuel (by omega)
  obtain ⟨H', b1, b2⟩ := ih (i + 1) fuel (by omega) (by omega)
  push_cast at b1
  rw [compatFrom]
  by_cases c2 : g.getD i 0 > 0
  ·by_cases c1 : given.getD i 0 > 0
   ·by_cases c3 : g.getD i 0 = given.getD i 0
    ·refine ⟨H', ?_, b2⟩
     simp (disch := omega) only [impl_PuzzleFits.l2, impl_PuzzleFits.j3, impl_PuzzleFits.j5, dt, df, bt, bf, nt, nf, Za, Zy, Zx, Zt, Zf, Zn, Zz, Zi, Zo, wr, AV.toB, AV.toI, AV.toS, if_true, rdn hz.rg, rdn hx, b1, Bool.and_false, Bool.true_and]
    ·refine ⟨H, ?_, (List.prefix_refl _)⟩
     simp (disch := omega) only [impl_PuzzleFits.l2, impl_PuzzleFits.j3, impl_PuzzleFits.j5, dt, df, bt, bf, nt, nf, Za, Zy, Zx, Zt, Zf, Zn, Zz, Zi, Zo, wr, AV.toB, AV.toI, AV.toS, if_true, rdn hz.rg, rdn hx, Bool.and_true, Bool.false_and]
   ·refine ⟨H', ?_, b2⟩
    simp (disch := omega) only [impl_PuzzleFits.l2, impl_PuzzleFits.j3, impl_PuzzleFits.j5, dt, df, bt, bf, nt, nf, Za, Zy, Zx, Zt, Zf, Zn, Zz, Zi, Zo, wr, AV.toB, AV.toI, AV.toS, if_true, rdn hz.rg, rdn hx, b1, Bool.and_false, Bool.false_and, Bool.true_and]
  ·refine ⟨H', ?_, b2⟩
   simp (disch := omega) only [impl_PuzzleFits.l2, impl_PuzzleFits.j3, impl_PuzzleFits.j5, dt, df, bt, bf, nt, nf, Za, Zy, Zx, Zt, Zf, Zn, Zz, Zi, Zo, wr, AV.toB, AV.toI, AV.toS, if_true, rdn hz.rg, rdn hx, b1, Bool.and_false, Bool.false_and, Bool.true_and]
theorem implPuzzleFits_ok {k : Nat} (hk : 2000042 ≤ k) {H : Hp} {n : Int} {gs s xs : Sl} {given g : List Int} {rs : List R} (hz : PuzAt H n gs s given rs) (hx : Reads .i64 H xs g) (hl : g.length ≤ 1000) :
  ∃ H', callF PP orc k impl_PuzzleFits.id [.agg [.int .i64 n, .sl 1 gs, .sl 3 s], .sl 1 xs] H = some (.bool (puzzleFitsV n given (rs.map R.val) g), H') ∧ H <+: H' := by
 obtain ⟨k, rfl⟩ := Zs k (by omega)
 rw [impl_PuzzleFits.call]
 have h1 := implPuzzleValid_ok (show 2000003 ≤ k by omega) hz.n4 hz.rg hz.gl hz.rr hz.rl hz.rc
 rw [puzzle_map] at h1
 unfold puzzleFitsV
 cases c1 : puzzleV n given (rs.map R.val) with
 | false =>
  rw [c1] at h1
  exact ⟨H, by simp only [impl_PuzzleFits.f, impl_PuzzleFits.j0, dt, df, bt, bf, nt, nf, Za, Zy, Zx, Zt, Zf, Zn, Zz, Zi, Zo, wr, AV.toB, AV.toI, AV.toS, if_true, h1, Bool.false_and], (List.prefix_refl _)⟩
 | true =>
  rw [c1] at h1
  obtain ⟨p1, p2, p3⟩ := puzzleV_iff c1
  obtain ⟨H1, a1, a2⟩ := implSquareFits_ok (show 2000001 ≤ k by omega) n hx (by omega)
  unfold squareFits at a1
  cases c2 : gridOk g n with
  | false =>
   rw [c2] at a1
   exact ⟨H1, by simp only [impl_PuzzleFits.f, impl_PuzzleFits.j0, dt, df, bt, bf, nt, nf, Za, Zy, Zx, Zt, Zf, Zn, Zz, Zi, Zo, wr, AV.toB, AV.toI, AV.toS, if_true, h1, a1, Bool.false_and, Bool.true_and], a2⟩
  | true =>
   rw [c2, Bool.true_and] at a1
   cases c3 : clash g n with
   | true =>
    rw [c3] at a1
    refine ⟨H1, ?_, a2⟩
    unfold fitsV
    simp only [impl_PuzzleFits.f, impl_PuzzleFits.j0, dt, df, bt, bf, nt, nf, Za, Zy, Zx, Zt, Zf, Zn, Zz, Zi, Zo, wr, AV.toB, AV.toI, AV.toS, if_true, h1, a1, Bool.true_and, c3, Bool.and_false]
   | false =>
    rw [c3] at a1
    obtain ⟨H2, b1, b2⟩ := implFits_l2 (show 2000041 ≤ k by omega) (hz.pf a2) p3 (pf_reads a2 hx) c2 (grid_len_eq p1 c2) g.length 0 k (by omega) (by omega)
    have hxl := hx.len
    refine ⟨H2, ?_, a2.trans b2⟩
    simp only [Int.natCast_zero] at b1
    unfold fitsV compatB
    simp only [impl_PuzzleFits.f, impl_PuzzleFits.j0, impl_PuzzleFits.j1, dt, df, bt, bf, nt, nf, Za, Zy, Zx, Zt, Zf, Zn, Zz, Zi, Zo, wr, AV.toB, AV.toI, AV.toS, if_true, h1, a1, hxl, b1, Bool.true_and, c3, Bool.and_true]
theorem dm_of {n : Int} {l : List Int} (h : masksOk n l = true) : l.length ≤ 16 ∧ 0 < l.length ∧ ∀ m ∈ l, -2 ≤ m ∧ m ≤ 63 := by
 obtain ⟨h1, h2, h3⟩ := masksOk_iff.1 h
 have := masks_len h
 refine ⟨by omega, by omega, fun m hm => ?_⟩
 have := (maskOk_iff.1 (h2 m hm)).1
 have := topMask_le n
 omega
theorem implRM_l2 {k : Nat} (hk : 2000030 ≤ k) {n kind value : Int} {cs ms : Sl} {H0 : Hp} {cells l : List Int} (hc : Reads .i64 H0 cs cells) (hm : Reads .i64 H0 ms l) (hr : ruleOk n kind cells value = true) (hl : masksOk n l = true) :
  ∀ (j i fuel : Nat) (H : Hp) (t : Sl), i + j = cells.length → j < fuel → H0 <+: H → Own 1 H0 H t ((ownOf l (cells.take i)).map (.int .i64)) →
   ∃ t' H', impl_RuleMasks.l2 (callF PP orc k) k fuel ms t cs cells.length i kind cs value H = some (.sl 1 t', H') ∧ H0 <+: H' ∧ Own 1 H0 H' t' ((ruleMasksV kind value (ownOf l cells)).map (.int .i64)) := by
 obtain ⟨c1, c2, c3, c4⟩ := ruleOk_cells hr
 have hcl := hc.len
 have hml := hm.len
 have hsz := (masksOk_iff.1 hl).2.2
 have hk2 : KindLen kind cells.length := by
  have hr' := hr
  unfold ruleOk at hr'
  rw [Bool.and_eq_true] at hr'
  exact kindLen_of hr'.2
 intro j
 induction j with
 | zero =>
  intro i fuel H t hi hf hp ho
  obtain ⟨fuel, rfl⟩ := Zs fuel (by omega)
  rw [List.take_of_length_le (by omega)] at ho
  obtain ⟨t', H', a1, a2, a3⟩ := implruleMasks_ok hk (kind := kind) (value := value) (cs := cs) (own_reads ho) (by rw [own_len]; omega) (ownOf_even hl fun c hcc => by have := c1 c hcc; omega) (by rw [own_len]; exact hk2)
  refine ⟨t', H', ?_, hp.trans a2, own_base a3 hp⟩
  simp (disch := omega) only [impl_RuleMasks.l2, impl_RuleMasks.j3, df, Zf, a1, Zo, AV.toS, if_true]
 | succ j ih =>
  intro i fuel H t hi hf hp ho
  obtain ⟨fuel, rfl⟩ := Zs fuel (by omega)
  have hi2 : i < cells.length := by omega
  have hcc := c1 _ (mem_getD hi2)
  have htl : t.len = i := by have := ho.len; simp [ownOf] at this; omega
  have htk : ownOf l (cells.take (i + 1)) = ownOf l (cells.take i) ++ [l.getD (cells.getD i 0).toNat 0] := by
   rw [List.take_succ_eq_append_getElem hi2]; unfold ownOf
   rw [List.map_append, List.getD_eq_getElem?_getD (l := cells), List.getElem?_eq_getElem hi2]; rfl
  obtain ⟨H1, a1, a2, a3, a4, a5⟩ := own_app1 ho hp (l.getD (cells.getD i 0).toNat 0) (by omega)
  rw [← htk] at a3
  obtain ⟨t', H', b1, b2, b3⟩ := ih (i + 1) fuel H1 _ (by omega) (by omega) a2 a3
  push_cast at b1
  refine ⟨t', H', ?_, b2, b3⟩
  have hc0 : (0 : Int) ≤ cells.getD i 0 := hcc.1
  have hc3 : cells.getD i 0 < (ms.len : Int) := by omega
  simp (disch := omega) only [impl_RuleMasks.l2, dt, Za, Zt, Zn, Zo, rdn (pf_reads hp hc), rdn (pf_reads hp hm), a1, wr (n := (i : Int) + 1), b1]
theorem implRuleMasks_ok {k : Nat} (hk : 2000040 ≤ k) {n kind value : Int} (hn : 2 ≤ n ∧ n ≤ 4) {cs ms : Sl} {H : Hp} {cells l : List Int} (hc : Reads .i64 H cs cells) (hm : Reads .i64 H ms l) (hcl : cells.length ≤ 1000) (hml : l.length ≤ 1000) (hr : ∀ m ∈ l, -2 ≤ m ∧ m ≤ 63) :
  ∃ t H', callF PP orc k impl_RuleMasks.id [.agg [.int .i64 kind, .sl 1 cs, .int .i64 value], .sl 1 ms, .int .i64 n] H = some (.sl 1 t, H') ∧ H <+: H' ∧ NilOr H H' t (ruleMasksS n kind value cells l) := by
 obtain ⟨k, rfl⟩ := Zs k (by omega)
 rw [impl_RuleMasks.call]
 have h1 := implRuleValid_ok (show 2000002 ≤ k by omega) (kind := kind) (value := value) hn hc hcl
 have h2 := implMasksValid_ok (show 2000000 ≤ k by omega) (n := n) (by omega) hm hml hr
 have hcs := hc.len
 unfold ruleMasksS
 cases e1 : ruleOk n kind cells value with
 | false =>
  rw [e1] at h1
  refine ⟨Sl.none, H, by simp only [impl_RuleMasks.f, impl_RuleMasks.j0, dt, df, bt, bf, nt, nf, Za, Zy, Zx, Zt, Zf, Zn, Zz, Zi, Zo, wr, AV.toB, AV.toI, AV.toS, if_true, h1], (List.prefix_refl _), .inl ⟨rfl, ?_⟩⟩
  rw [iN (by simp)]
 | true =>
  rw [e1] at h1
  cases e2 : masksOk n l with
  | false =>
   rw [e2] at h2
   refine ⟨Sl.none, H, by simp only [impl_RuleMasks.f, impl_RuleMasks.j0, dt, df, bt, bf, nt, nf, Za, Zy, Zx, Zt, Zf, Zn, Zz, Zi, Zo, wr, AV.toB, AV.toI, AV.toS, if_true, h1, h2], (List.prefix_refl _), .inl ⟨rfl, ?_⟩⟩
   rw [iN (by simp)]
  | true =>
   rw [e2] at h2
   rw [ip ⟨by rw [decide_eq_true hn]; rfl, rfl⟩]
   have hcb := (ruleOk_cells e1).2.1
   obtain ⟨t', H', b1, b2, b3⟩ := implRM_l2 (show 2000030 ≤ k by omega) hc hm e1 e2 cells.length 0 k (H ++ [some (Blk.mk false [])]) (Sl.mk false H.length 0 0) (by omega) (by omega) (List.prefix_append _ _) (own_new 1 H [] 0 rfl)
   refine ⟨t', H', ?_, b2, .inr b3⟩
   simp only [Int.natCast_zero] at b1
   simp only [impl_RuleMasks.f, impl_RuleMasks.j0, impl_RuleMasks.j1, dt, df, bt, bf, nt, nf, Za, Zy, Zx, Zt, Zf, Zn, Zz, Zi, Zo, wr, AV.toB, AV.toI, AV.toS, if_true, h1, h2, hcs, b1]
theorem iRules_l3 (rec : Rec) (k : Nat) (L2 : Sl → Sl → Int → Int → Int → Sl → Sl → Hp → An) {H0 Hb : Hp} {n kind value x24 : Int} {gs s cs us t x23 : Sl} {cells fl : List Int} {i m : Nat} (hc : Reads .i64 H0 cs cells) (hcl : cells.length ≤ 1000) (hfl : fl.length = cells.length) (hin : ∀ c ∈ cells, 0 ≤ c ∧ c < (m : Int)) (hm : m ≤ 1000) (htb : t.blk < Hb.length) :
  ∀ (j q fuel : Nat) (H : Hp) (a : List Int), q + j = cells.length → j < fuel → H0 <+: H → Own 1 Hb H us (fl.map (.int .i64)) → Own 1 H0 H t (a.map (.int .i64)) → a.length = m →
   ∃ H', impl_NarrowRules.l3 rec k L2 fuel t x23 x24 i us (cells.length : Int) q n gs s kind cs value H = L2 t x23 x24 (IntKind.i64.wrap ((i : Int) + 1)) n gs s H' ∧ H0 <+: H' ∧ Own 1 H0 H' t ((setAll cells a fl q j).map (.int .i64)) ∧ Adv t.blk H H' := by
 have hcs := hc.len
 intro j
 induction j with
 | zero =>
  intro q fuel H a hq hf hp hu ho ha
  obtain ⟨fuel, rfl⟩ := Zs fuel (by omega)
  refine ⟨H, ?_, hp, ho, Adv.refl _ _⟩
  simp (disch := omega) only [impl_NarrowRules.l3, impl_NarrowRules.j5, df, Zf]
 | succ j ih =>
  intro q fuel H a hq hf hp hu ho ha
  obtain ⟨fuel, rfl⟩ := Zs fuel (by omega)
  have hq2 : q < cells.length := by omega
  obtain ⟨c0, c1⟩ := hin _ (mem_getD hq2)
  have hus := (own_reads hu).len
  have htl := (own_reads ho).len
  have hrc := pf_reads hp hc
  obtain ⟨H1, a1, a2, a3, a4⟩ := own_set1 ho hp (cells.getD q 0).toNat (by omega) (fl.getD q 0)
  obtain ⟨H', b1, b2, b3, b4⟩ := ih (q + 1) fuel H1 _ (by omega) (by omega) a2 (a4.own htb hu) a3 (by simpa using ha)
  push_cast at b1
  refine ⟨H', ?_, b2, b3, a4.trans b4⟩
  simp (disch := omega) only [impl_NarrowRules.l3, dt, Za, Zt, Zn, Zo, rdn hrc, rdn (own_reads hu), a1, wr (n := (q : Int) + 1), b1]
theorem iRules_l2 {k : Nat} (hk : 2000040 ≤ k) {H0 : Hp} {n : Int} {gs s t : Sl} {given : List Int} {rs : List R} (hz : PuzAt H0 n gs s given rs) (hro : ∀ r ∈ rs, R.ok n r = true) :
  ∀ (j i fuel : Nat) (H : Hp) (a : List Int), i + j = rs.length → j < fuel → H0 <+: H → Own 1 H0 H t (a.map (.int .i64)) → masksOk n a = true →
   ∃ H', impl_NarrowRules.l2 (callF PP orc k) k fuel t s (rs.length : Int) i n gs s H = some (.sl 1 t, H') ∧ H0 <+: H' ∧ Own 1 H0 H' t ((((rs.drop i).map R.val).foldl (ruleStep n) a).map (.int .i64)) := by
 have hrl := hz.rr.len
 have hrl2 := hz.rl
 have hn := hz.n4
 intro j
 induction j with
 | zero =>
  intro i fuel H a hi hf hp ho ha
  obtain ⟨fuel, rfl⟩ := Zs fuel (by omega)
  rw [List.drop_eq_nil_of_le (by omega)]
  refine ⟨H, ?_, hp, ho⟩
  simp (disch := omega) only [impl_NarrowRules.l2, impl_NarrowRules.j4, df, Zf]
 | succ j ih =>
  intro i fuel H a hi hf hp ho ha
  obtain ⟨fuel, rfl⟩ := Zs fuel (by omega)
  have hi2 : i < rs.length := by omega
  obtain ⟨l0, l1, l2⟩ := rules_at1 (pf_readsR hp hz.rr) i hi2
  have hrc := hz.rc _ (List.getElem_mem hi2)
  have hok : ruleOkV n rs[i].val = true := hro _ (List.getElem_mem hi2)
  obtain ⟨c1, c2, c3, c4⟩ := ruleOk_cells hok
  obtain ⟨ml4, ml16, _⟩ := masks_len ha
  have hm2 := (masksOk_iff.1 ha).2.2
  obtain ⟨d1', d2', d3'⟩ := dm_of ha
  obtain ⟨u, H1, a1, a2, a3⟩ := implRuleMasks_ok hk (kind := rs[i].kind) (value := rs[i].value) hn (pf_reads hp (hz.rr.cs i hi2)) (own_reads ho) (by omega) (by omega) d3'
  have e : ruleMasksS n rs[i].kind rs[i].value rs[i].cells a = ruleMasksV rs[i].kind rs[i].value (ownOf a rs[i].cells) := ruleMasks_S hok ha
  have h4 : rs[i].cells.length ≤ 4 := c2
  have h1' : 1 ≤ rs[i].cells.length := c3
  have hfl : (ruleMasksS n rs[i].kind rs[i].value rs[i].cells a).length = rs[i].cells.length := by
   rw [e, (ruleMasks_ok (by rw [own_len]; exact h4)).2, own_len]
  have a3' : Own 1 H H1 u ((ruleMasksS n rs[i].kind rs[i].value rs[i].cells a).map (.int .i64)) := by
   rcases a3 with ⟨_, h⟩ | h
   ·rw [h] at hfl; simp at hfl; omega
   ·exact h
  have hul := (own_reads a3').len
  obtain ⟨H2, b1, b2, b3, b4⟩ := iRules_l3 (callF PP orc k) k (impl_NarrowRules.l2 (callF PP orc k) k fuel) (n := n) (kind := rs[i].kind) (value := rs[i].value) (gs := gs) (s := s) (x23 := s) (x24 := (rs.length : Int)) (i := i) (m := a.length) (hz.rr.cs i hi2) hrc hfl (fun c hc => by have := c1 c hc; omega) (by omega) (own_lt' ho) rs[i].cells.length 0 k H1 a (by omega) (by omega) (hp.trans a2) a3' (own_pf ho a2) rfl
  have hst : masksOk n (ruleStep n a rs[i].val) = true := (ruleStep_sub hok ha).ok ha
  obtain ⟨H', d1, d2, d3⟩ := ih (i + 1) fuel H2 (ruleStep n a rs[i].val) (by omega) (by omega) b2 b3 hst
  push_cast at d1
  rw [val_drop rs i hi2, List.foldl_cons]
  refine ⟨H', ?_, d2, d3⟩
  simp only [Int.natCast_zero] at b1
  have hul2 : (u.len : Int) = (rs[i].cells.length : Int) := by omega
  simp (disch := omega) only [impl_NarrowRules.l2, dt, Za, Zt, Zn, Zo, l0, l1, l2, a1, AV.toS, if_true, hul2, b1, wr (n := (i : Int) + 1), d1]
theorem implNarrowRules_ok {k : Nat} (hk : 2000050 ≤ k) {H : Hp} {n : Int} {gs s ms : Sl} {given l : List Int} {rs : List R} (hz : PuzAt H n gs s given rs) (hm : Reads .i64 H ms l) (hnn : ms.nil = false) (hl : l.length ≤ 1000) (hr : ∀ m ∈ l, -2 ≤ m ∧ m ≤ 63) :
  ∃ t H', callF PP orc k impl_NarrowRules.id [.agg [.int .i64 n, .sl 1 gs, .sl 3 s], .sl 1 ms] H = some (.sl 1 t, H') ∧ H <+: H' ∧ NilOr H H' t (rulesV n given (rs.map R.val) l) := by
 obtain ⟨k, rfl⟩ := Zs k (by omega)
 rw [impl_NarrowRules.call]
 have hn := hz.n4
 have h1 := implPuzzleValid_ok (show 2000003 ≤ k by omega) hz.n4 hz.rg hz.gl hz.rr hz.rl hz.rc
 rw [puzzle_map] at h1
 have h2 := implMasksValid_ok (show 2000000 ≤ k by omega) (n := n) (by omega) hm hl hr
 unfold rulesV
 cases e1 : puzzleV n given (rs.map R.val) with
 | false =>
  rw [e1] at h1
  rw [iN (by simp)]
  exact ⟨Sl.none, H, by simp only [impl_NarrowRules.f, impl_NarrowRules.j0, dt, df, bt, bf, nt, nf, Za, Zy, Zx, Zt, Zf, Zn, Zz, Zi, Zo, wr, AV.toB, AV.toI, AV.toS, if_true, h1], (List.prefix_refl _), .inl ⟨rfl, rfl⟩⟩
 | true =>
  rw [e1] at h1
  cases e2 : masksOk n l with
  | false =>
   rw [e2] at h2
   rw [iN (by simp)]
   exact ⟨Sl.none, H, by simp only [impl_NarrowRules.f, impl_NarrowRules.j0, dt, df, bt, bf, nt, nf, Za, Zy, Zx, Zt, Zf, Zn, Zz, Zi, Zo, wr, AV.toB, AV.toI, AV.toS, if_true, h1, h2], (List.prefix_refl _), .inl ⟨rfl, rfl⟩⟩
  | true =>
   rw [e2] at h2
   rw [ip ⟨rfl, rfl⟩]
   have h3 := Clone_own (show 1 ≤ k by omega) hm hnn hl
   have hnew := own_new 1 H (l.map (.int .i64)) l.length (by simp)
   obtain ⟨_, _, q3⟩ := puzzleV_iff e1
   have hrl := hz.rl
   have hrs := hz.rr.len
   obtain ⟨H', b1, b2, b3⟩ := iRules_l2 (show 2000040 ≤ k by omega) hz q3 rs.length 0 k (H ++ [some (Blk.mk false (l.map (.int .i64)))]) l (by omega) (by omega) (List.prefix_append _ _) hnew e2
   rw [List.drop_zero] at b3
   refine ⟨_, H', ?_, b2, .inr b3⟩
   simp only [Int.natCast_zero] at b1
   simp only [impl_NarrowRules.f, impl_NarrowRules.j0, impl_NarrowRules.j1, dt, df, bt, bf, nt, nf, Za, Zy, Zx, Zt, Zf, Zn, Zz, Zi, Zo, wr, AV.toB, AV.toI, AV.toS, if_true, h1, h2, h3, hrs, b1]
theorem sub_zero {a b : Int} (ha : M a) (hb : M b) (h : ∀ v : Nat, has a v = true → has b v = true) : mSub a b = 0 := by
 apply Classical.byContradiction
 intro hc
 obtain ⟨v, hv⟩ := (ne_zero_has (M.sub ha hb)).1 hc
 rw [has_sub ha hb, Bool.and_eq_true, Bool.not_eq_true'] at hv
 rw [h v hv.1] at hv
 exact absurd hv.2 (by simp)
theorem within_l0 (rec : Rec) (k : Nat) {H : Hp} {s t : Sl} {x y : List Int} (hs : Reads .i64 H s x) (ht : Reads .i64 H t y) (hx : Ms x) (hy : Ms y) (h : SubM x y) (h1 : x.length ≤ 1000) :
  ∀ (j i fuel : Nat), i + j = x.length → j < fuel → laws_within.l0 rec k fuel s t i H = some (.bool true, H) := by
 have hsl := hs.len
 have htl := ht.len
 have hl := h.1
 intro j
 induction j with
 | zero =>
  intro i fuel hi hf
  obtain ⟨fuel, rfl⟩ := Zs fuel (by omega)
  simp (disch := omega) only [laws_within.l0, dt, df, bt, bf, nt, nf, Za, Zy, Zx, Zt, Zf, Zn, Zz, Zi, Zo, wr, AV.toB, AV.toI, AV.toS, if_true]
 | succ j ih =>
  intro i fuel hi hf
  obtain ⟨fuel, rfl⟩ := Zs fuel (by omega)
  have d1 := ih (i + 1) fuel (by omega) (by omega)
  push_cast at d1
  have e := sub_zero (hx.at i) (hy.at i) fun v hv => h.2 i v (by omega) hv
  simp (disch := omega) only [laws_within.l0, dt, nf, Za, Zt, Zf, Zn, Zo, rdn hs, rdn ht, m_sub (hx.at i) (hy.at i), e, wr (n := (i : Int) + 1), d1]
theorem within_ok {k : Nat} (hk : 2000000 ≤ k) {H : Hp} {s t : Sl} {x y : List Int} (hs : Reads .i64 H s x) (ht : Reads .i64 H t y) (hx : Ms x) (hy : Ms y) (h : SubM x y) (h1 : x.length ≤ 1000) :
  callF PP orc k laws_within.id [.sl 1 s, .sl 1 t] H = some (.bool true, H) := by
 obtain ⟨k, rfl⟩ := Zs k (by omega)
 rw [laws_within.call]
 have hsl := hs.len
 have htl := ht.len
 have hl := h.1
 have d1 := within_l0 (callF PP orc k) k hs ht hx hy h h1 x.length 0 k (by omega) (by omega)
 simp only [Int.natCast_zero] at d1
 simp (disch := omega) only [laws_within.f, nf, Zf, d1]
theorem sameInts_l0 (rec : Rec) (k : Nat) {H : Hp} {s t : Sl} {x y : List Int} (hs : Reads .i64 H s x) (ht : Reads .i64 H t y) (hl : x.length = y.length) (h1 : x.length ≤ 1000) :
  ∀ (j i fuel : Nat), i + j = x.length → j < fuel → laws_sameInts.l0 rec k fuel s t i H = some (.bool (decide (x.drop i = y.drop i)), H) := by
 have hsl := hs.len
 have htl := ht.len
 intro j
 induction j with
 | zero =>
  intro i fuel hi hf
  obtain ⟨fuel, rfl⟩ := Zs fuel (by omega)
  rw [List.drop_eq_nil_of_le (show x.length ≤ i by omega), List.drop_eq_nil_of_le (show y.length ≤ i by omega)]
  simp (disch := omega) only [laws_sameInts.l0, dt, df, bt, bf, nt, nf, Za, Zy, Zx, Zt, Zf, Zn, Zz, Zi, Zo, wr, AV.toB, AV.toI, AV.toS, if_true]
  rfl
 | succ j ih =>
  intro i fuel hi hf
  obtain ⟨fuel, rfl⟩ := Zs fuel (by omega)
  have hx : i < x.length := by omega
  have hy : i < y.length := by omega
  have ex : x.drop i = x.getD i 0 :: x.drop (i + 1) := by
   rw [List.drop_eq_getElem_cons hx, List.getD_eq_getElem?_getD, List.getElem?_eq_getElem hx]; rfl
  have ey : y.drop i = y.getD i 0 :: y.drop (i + 1) := by
   rw [List.drop_eq_getElem_cons hy, List.getD_eq_getElem?_getD, List.getElem?_eq_getElem hy]; rfl
  rw [ex, ey]
  by_cases c : x.getD i 0 = y.getD i 0
  ·have d1 := ih (i + 1) fuel (by omega) (by omega)
   push_cast at d1
   rw [show decide (x.getD i 0 :: x.drop (i + 1) = y.getD i 0 :: y.drop (i + 1)) = decide (x.drop (i + 1) = y.drop (i + 1)) by rw [c]; simp, ← d1]
   simp (disch := omega) only [laws_sameInts.l0, dt, df, bt, bf, nt, nf, Za, Zy, Zx, Zt, Zf, Zn, Zz, Zi, Zo, wr, AV.toB, AV.toI, AV.toS, if_true, rdn hs, rdn ht, nf]
  ·rw [show decide (x.getD i 0 :: x.drop (i + 1) = y.getD i 0 :: y.drop (i + 1)) = false from decide_eq_false fun h => c (List.cons.inj h).1]
   simp (disch := omega) only [laws_sameInts.l0, dt, df, bt, bf, nt, nf, Za, Zy, Zx, Zt, Zf, Zn, Zz, Zi, Zo, wr, AV.toB, AV.toI, AV.toS, if_true, rdn hs, rdn ht, nt]
theorem sameInts_ok {k : Nat} (hk : 2000000 ≤ k) {H : Hp} {s t : Sl} {x y : List Int} (hs : Reads .i64 H s x) (ht : Reads .i64 H t y) (h1 : x.length ≤ 1000) (h2 : y.length ≤ 1000) :
  callF PP orc k laws_sameInts.id [.sl 1 s, .sl 1 t] H = some (.bool (decide (x = y)), H) := by
 obtain ⟨k, rfl⟩ := Zs k (by omega)
 rw [laws_sameInts.call]
 have hsl := hs.len
 have htl := ht.len
 by_cases c : x.length = y.length
 ·have d1 := sameInts_l0 (callF PP orc k) k hs ht c h1 x.length 0 k (by omega) (by omega)
  simp only [Int.natCast_zero, List.drop_zero] at d1
  rw [← d1]
  simp (disch := omega) only [laws_sameInts.f, dt, df, bt, bf, nt, nf, Za, Zy, Zx, Zt, Zf, Zn, Zz, Zi, Zo, wr, AV.toB, AV.toI, AV.toS, if_true]
 ·rw [decide_eq_false (fun h => c (congrArg List.length h))]
  simp (disch := omega) only [laws_sameInts.f, dt, df, bt, bf, nt, nf, Za, Zy, Zx, Zt, Zf, Zn, Zz, Zi, Zo, wr, AV.toB, AV.toI, AV.toS, if_true]
theorem same_ok {k : Nat} (hk : 2000000 ≤ k) {H : Hp} {s t : Sl} {x : List Int} (hs : Reads .i64 H s x) (ht : Reads .i64 H t x) (h1 : x.length ≤ 1000) :
  callF PP orc k laws_sameInts.id [.sl 1 s, .sl 1 t] H = some (.bool true, H) := by
 rw [sameInts_ok hk hs ht h1 h1, decide_eq_true rfl]
theorem wdivm {a u : Nat} (N : Nat) (hN : 2 ≤ N ∧ N ≤ 4) (ha : a < N * N) (hu : u < N) : IntKind.i64.wrap (IntKind.i64.wrap (IntKind.i64.wrap ((a : Int).tdiv (N : Int)) * (N : Int)) + (u : Int)) = ((a / N * N + u : Nat) : Int) ∧ IntKind.i64.wrap (IntKind.i64.wrap ((u : Int) * (N : Int)) + (a : Int).tmod (N : Int)) = ((u * N + a % N : Nat) : Int) ∧ a / N * N + u < N * N ∧ u * N + a % N < N * N := by
 have e1 : ((a : Int)).tdiv (N : Int) = ((a / N : Nat) : Int) := rfl
 have e2 : ((a : Int)).tmod (N : Int) = ((a % N : Nat) : Int) := rfl
 rw [e1, e2]
 have : N = 2 ∨ N = 3 ∨ N = 4 := by omega
 rcases this with rfl | rfl | rfl
 all_goals
  refine ⟨?_, ?_, by omega, by omega⟩
  ·rw [wr (n := ((a / _ : Nat) : Int)) (by omega) (by omega), wr (n := ((a / _ : Nat) : Int) * _) (by omega) (by omega), wr (by omega) (by omega)]; omega
  ·rw [wr (n := (u : Int) * _) (by omega) (by omega), wr (by omega) (by omega)]; omega
theorem cellFits_l5 {k : Nat} (hk : 2000041 ≤ k) {H0 : Hp} {n : Int} {gs s xs : Sl} {given g : List Int} {rs : List R} (hz : PuzAt H0 n gs s given rs) (hro : ∀ r ∈ rs, R.ok n r = true) (hx : Reads .i64 H0 xs g) (hg : gridOk g n = true) {at' : Nat} :
  ∀ (j i fuel : Nat) (H : Hp), i + j = rs.length → j < fuel → H0 <+: H → ∃ H', impl_cellFits.l5 (callF PP orc k) k fuel xs at' n s rs.length i H = some (.bool (((rs.drop i).map R.val).all fun r => !r.2.1.contains (at' : Int) || canHoldV n g r), H') ∧ H0 <+: H' := by
 have hlen := hz.rr.len
 have hrl := hz.rl
 intro j
 induction j with
 | zero =>
  intro i fuel H hi hf hp
  obtain ⟨fuel, rfl⟩ := Zs fuel (by omega)
  refine ⟨H, ?_, hp⟩
  rw [List.drop_eq_nil_of_le (by omega), List.map_nil, List.all_nil]
  simp (disch := omega) only [impl_cellFits.l5, dt, df, bt, bf, nt, nf, Za, Zy, Zx, Zt, Zf, Zn, Zz, Zi, Zo, wr, AV.toB, AV.toI, AV.toS, if_true]
 | succ j ih =>
  intro i fuel H hi hf hp
  obtain ⟨fuel, rfl⟩ := Zs fuel (by omega)
  have hi2 : i < rs.length := by omega
  obtain ⟨l0, l1, l2⟩ := rules_at1 (pf_readsR hp hz.rr) i hi2
  have hmem := List.getElem_mem hi2
  have hcs := pf_reads hp (hz.rr.cs i hi2)
  have hct := Contains_ok (show 2000001 ≤ k by omega) (at' : Int) hcs (by have := hz.rc _ hmem; omega)
  rw [List.drop_eq_getElem_cons hi2, List.map_cons, List.all_cons]
  have e2 : rs[i].val.2.1 = rs[i].cells := rfl
  rw [e2]
  cases c1 : rs[i].cells.contains (at' : Int) with
  | false =>
   rw [c1] at hct
   obtain ⟨H', b1, b2⟩ := ih (i + 1) fuel H (by omega) (by omega) hp
   push_cast at b1
   refine ⟨H', ?_, b2⟩
   simp (disch := omega) only [impl_cellFits.l5, impl_cellFits.j7, impl_cellFits.j8, dt, df, bt, bf, nt, nf, Za, Zy, Zx, Zt, Zf, Zn, Zz, Zi, Zo, wr, AV.toB, AV.toI, AV.toS, if_true, l0, l1, l2, hct, b1, Bool.true_or, Bool.true_and]
  | true =>
   rw [c1] at hct
   obtain ⟨H1, a1, a2⟩ := canHold_ok hk hcs (pf_reads hp hx) (hro _ hmem) hg
   have e : canHoldV n g (rs[i].kind, rs[i].cells, rs[i].value) = canHoldV n g rs[i].val := rfl
   rw [e] at a1
   cases c : canHoldV n g rs[i].val with
   | true =>
    rw [c] at a1
    obtain ⟨H', b1, b2⟩ := ih (i + 1) fuel H1 (by omega) (by omega) (hp.trans a2)
    push_cast at b1
    refine ⟨H', ?_, b2⟩
    simp (disch := omega) only [impl_cellFits.l5, impl_cellFits.j7, impl_cellFits.j8, dt, df, bt, bf, nt, nf, Za, Zy, Zx, Zt, Zf, Zn, Zz, Zi, Zo, wr, AV.toB, AV.toI, AV.toS, if_true, l0, l1, l2, hct, a1, b1, Bool.or_true, Bool.true_and]
   | false =>
    rw [c] at a1
    refine ⟨H1, ?_, hp.trans a2⟩
    simp (disch := omega) only [impl_cellFits.l5, impl_cellFits.j7, impl_cellFits.j8, dt, df, bt, bf, nt, nf, Za, Zy, Zx, Zt, Zf, Zn, Zz, Zi, Zo, wr, AV.toB, AV.toI, AV.toS, if_true, l0, l1, l2, hct, a1, Bool.or_false, Bool.false_and]
theorem cellFits_l1 (rec : Rec) (k : Nat) (L0 : Sl → Int → Int → Int → Int → Int → Sl → Sl → Hp → An) {n y0 x15 : Int} {gs s xs cs : Sl} {H : Hp} {g cells : List Int} {at' q : Nat} (hc : Reads .i64 H cs cells) (hx : Reads .i64 H xs g) (ha : at' < g.length) (hq : q < 1000) (hcl : cells.length ≤ 10) (hin : ∀ c ∈ cells, 0 ≤ c ∧ c.toNat < g.length ∧ c < (g.length : Int)) :
  ∀ (j i fuel : Nat), i + j = cells.length → j < fuel → impl_cellFits.l1 rec k L0 fuel xs at' n x15 q cs cells.length i y0 gs s H =
   bif (cells.drop i).any (fun c => decide (c ≠ (at' : Int)) && decide (g.getD c.toNat 0 = g.getD at' 0)) then some (.bool false, H) else L0 xs at' n x15 ((q : Int) + 1) y0 gs s H := by
 have hcs := hc.len
 have hxl := hx.len
 have eqd : ∀ a b : Int, (a == b) = decide (a = b) := fun a b => by rw [Bool.eq_iff_iff]; simp
 intro j
 induction j with
 | zero =>
  intro i fuel hi hf
  obtain ⟨fuel, rfl⟩ := Zs fuel (by omega)
  rw [List.drop_eq_nil_of_le (by omega)]
  simp (disch := omega) only [impl_cellFits.l1, impl_cellFits.j4, df, Zf, wr, List.any_nil]
 | succ j ih =>
  intro i fuel hi hf
  obtain ⟨fuel, rfl⟩ := Zs fuel (by omega)
  have hi2 : i < cells.length := by omega
  obtain ⟨c0, c1, c2⟩ := hin _ (mem_getD hi2)
  have hd : cells.drop i = cells.getD i 0 :: cells.drop (i + 1) := by
   rw [List.drop_eq_getElem_cons hi2, List.getD_eq_getElem?_getD, List.getElem?_eq_getElem hi2]; rfl
  have h5 := ih (i + 1) fuel (by omega) (by omega)
  push_cast at h5
  rw [hd, List.any_cons]
  by_cases cA : cells.getD i 0 = (at' : Int)
  ·rw [df (show ¬ cells.getD i 0 ≠ (at' : Int) from fun h => h cA), Bool.false_and, Bool.false_or]
   simp (disch := omega) only [impl_cellFits.l1, impl_cellFits.j3, impl_cellFits.j6, dt, nf, Za, Zt, Zf, Zn, Zo, wr, rdn hc, h5]
  ·rw [dt cA, Bool.true_and]
   by_cases eA : g.getD (cells.getD i 0).toNat 0 = g.getD at' 0
   ·rw [dt eA]
    simp (disch := omega) only [impl_cellFits.l1, impl_cellFits.j3, impl_cellFits.j6, dt, nt, bt, Za, Zt, Zf, Zn, Zo, wr, rdn hc, rdn hx, Bool.true_or]
   ·rw [df eA]
    simp (disch := omega) only [impl_cellFits.l1, impl_cellFits.j3, impl_cellFits.j6, dt, nt, bf, Za, Zt, Zf, Zn, Zo, wr, rdn hc, rdn hx, Bool.false_or, h5]
theorem cellFits_l0 {k : Nat} (hk : 2000041 ≤ k) {H0 : Hp} {gs s xs : Sl} {given g : List Int} {rs : List R} {N : Nat} (hz : PuzAt H0 (N : Int) gs s given rs) (hro : ∀ r ∈ rs, R.ok (N : Int) r = true) (hx : Reads .i64 H0 xs g) (hg : gridOk g (N : Int) = true) {at' : Nat} (ha : at' < g.length) :
  ∀ (j q fuel : Nat) (H : Hp), q + j = N → j < fuel → H0 <+: H → ∃ H', impl_cellFits.l0 (callF PP orc k) k fuel xs at' N N q N gs s H = some (.bool (!cellFrom N g at' q j && (rs.map R.val).all fun r => !r.2.1.contains (at' : Int) || canHoldV N g r), H') ∧ H0 <+: H' := by
 have hn := hz.n4
 have hN : 2 ≤ N ∧ N ≤ 4 := by omega
 have hgl := ((gridOk_iff g _).1 hg).2.1
 have hgl' : g.length = N * N := by
  have : N = 2 ∨ N = 3 ∨ N = 4 := by omega
  rcases this with rfl | rfl | rfl <;> omega
 have hxl := hx.len
 have hsl := hz.rr.len
 have hrl := hz.rl
 intro j
 induction j with
 | zero =>
  intro q fuel H hq hf hp
  obtain ⟨fuel, rfl⟩ := Zs fuel (by omega)
  obtain ⟨H', b1, b2⟩ := cellFits_l5 hk hz hro hx hg (at' := at') rs.length 0 k H (by omega) (by omega) hp
  simp only [Int.natCast_zero, List.drop_zero] at b1
  refine ⟨H', ?_, b2⟩
  simp (disch := omega) only [impl_cellFits.l0, impl_cellFits.j2, dt, df, bt, bf, nt, nf, Za, Zy, Zx, Zt, Zf, Zn, Zz, Zi, Zo, wr, AV.toB, AV.toI, AV.toS, if_true, hsl, b1, cellFrom, Bool.true_and]
 | succ j ih =>
  intro q fuel H hq hf hp
  obtain ⟨fuel, rfl⟩ := Zs fuel (by omega)
  obtain ⟨w1, w2, w3, w4⟩ := wdivm N hN (a := at') (u := q) (by omega) (by omega)
  have q1 : H <+: H ++ [some (Blk.mk false (([((at' / N * N + q : Nat) : Int), ((q * N + at' % N : Nat) : Int)] : List Int).map (.int .i64)))] := List.prefix_append _ _
  have hnew := own_reads (own_new 1 H (([((at' / N * N + q : Nat) : Int), ((q * N + at' % N : Nat) : Int)] : List Int).map (.int .i64)) 2 rfl)
  have hx1 := pf_reads (hp.trans q1) hx
  obtain ⟨H', b1, b2⟩ := ih (q + 1) fuel _ (by omega) (by omega) (hp.trans q1)
  rw [show ((q + 1 : Nat) : Int) = (q : Int) + 1 from rfl] at b1
  rw [cellFrom]
  generalize hA : at' / N * N + q = A at *
  generalize hB : q * N + at' % N = B at *
  have h1 := cellFits_l1 (callF PP orc k) k (impl_cellFits.l0 (callF PP orc k) k fuel) (n := (N : Int)) (y0 := (N : Int)) (x15 := (N : Int)) (gs := gs) (s := s) (at' := at') (q := q) hnew hx1 ha (by omega) (by simp) (fun c hc => by
   simp at hc
   rcases hc with rfl | rfl
   ·exact ⟨by omega, by rw [Int.toNat_natCast]; omega, by omega⟩
   ·exact ⟨by omega, by rw [Int.toNat_natCast]; omega, by omega⟩) 2 0 k (by simp) (by omega)
  have e : (([(A : Int), (B : Int)] : List Int).drop 0).any (fun c => decide (c ≠ (at' : Int)) && decide (g.getD c.toNat 0 = g.getD at' 0)) = ((decide (A ≠ at') && decide (g.getD A 0 = g.getD at' 0)) || (decide (B ≠ at') && decide (g.getD B 0 = g.getD at' 0))) := by
   have eA : decide ((A : Int) ≠ (at' : Int)) = decide (A ≠ at') := decide_eq_decide.2 (by omega)
   have eB : decide ((B : Int) ≠ (at' : Int)) = decide (B ≠ at') := decide_eq_decide.2 (by omega)
   simp only [List.drop_zero, List.any_cons, List.any_nil, Zn, Bool.or_false, eA, eB]
  rw [e] at h1
  simp only [List.map_cons, List.map_nil, Zl, Zm, Int.natCast_zero] at h1 b1
  have z1 : ((N : Int) = 0) = False := by simp; omega
  cases hc : (decide (A ≠ at') && decide (g.getD A 0 = g.getD at' 0)) || (decide (B ≠ at') && decide (g.getD B 0 = g.getD at' 0)) with
  | true =>
   rw [hc] at h1
   refine ⟨_, ?_, hp.trans q1⟩
   rw [← Bool.or_assoc, hc]
   simp only [impl_cellFits.l0, dt (show (q : Int) < (N : Int) by omega), Zt, z1, if_false, w1, w2, hA, hB, h1, List.map_cons, List.map_nil, Bool.true_or, Zy, Bool.false_and]
  | false =>
   rw [hc] at h1
   refine ⟨H', ?_, b2⟩
   rw [← Bool.or_assoc, hc]
   simp only [impl_cellFits.l0, dt (show (q : Int) < (N : Int) by omega), Zt, Zf, z1, if_false, w1, w2, hA, hB, h1, Bool.false_or, b1]
theorem cellFits_ok {k : Nat} (hk : 2000042 ≤ k) {H : Hp} {n : Int} {gs s xs : Sl} {given g : List Int} {rs : List R} (hz : PuzAt H n gs s given rs) (hro : ∀ r ∈ rs, R.ok n r = true) (hx : Reads .i64 H xs g) (hg : gridOk g n = true) {at' : Nat} (ha : at' < g.length) :
  ∃ H', callF PP orc k impl_cellFits.id [.agg [.int .i64 n, .sl 1 gs, .sl 3 s], .sl 1 xs, .int .i64 (at' : Int)] H = some (.bool (cellFitsV n (rs.map R.val) g at'), H') ∧ H <+: H' := by
 obtain ⟨k, rfl⟩ := Zs k (by omega)
 rw [impl_cellFits.call]
 have hn := hz.n4
 obtain ⟨N, rfl⟩ := Int.eq_ofNat_of_zero_le (show 0 ≤ n by omega)
 obtain ⟨H', a1, a2⟩ := cellFits_l0 (show 2000041 ≤ k by omega) hz hro hx hg ha N 0 k H (by omega) (by omega) (List.prefix_refl _)
 exact ⟨H', a1, a2⟩
def runL {σ : Type} (step : σ → List Int → σ × Bool) : σ → List (List Int) → σ × Bool
 | st, [] => (st, true)
 | st, x :: L => if (step st x).2 = true then runL step (step st x).1 L else ((step st x).1, false)
theorem runL_app {σ : Type} (step : σ → List Int → σ × Bool) : ∀ (A L : List (List Int)) (st : σ), runL step st (A ++ L) = if (runL step st A).2 = true then runL step (runL step st A).1 L else runL step st A
 | [], L, st => by simp [runL]
 | x :: A, L, st => by
  rw [List.cons_append, runL, runL]
  by_cases h : (step st x).2 = true
  ·rw [if_pos h, if_pos h, runL_app step A L]
  ·rw [if_neg h, if_neg h]; simp
theorem runL_one {σ : Type} (step : σ → List Int → σ × Bool) (st : σ) (x : List Int) : runL step st [x] = step st x := by
 rw [runL]
 by_cases h : (step st x).2 = true
 ·rw [if_pos h, runL, ← h]
 ·rw [if_neg h]
  rw [Bool.not_eq_true] at h
  rw [← h]
structure Tell (B : Hp) (f : FuncId) (caps : List AV) (b d : Nat) {σ : Type} (step : σ → List Int → σ × Bool) (T : Nat → σ × Bool → Hp → Prop) (K : Nat) : Prop where
 ok : okF PP f = true
 gl : caps.all AV.glob = true
 bB : B.length ≤ b
 bd : b ≠ d
 pf : ∀ c st H H', T c st H → H <+: H' → T c st H'
 wr : ∀ c st H H', T c st H → But d H H' → H'.length = H.length → T c st H'
 go : ∀ k, K ≤ k → ∀ c st H t g, T c (st, true) H → B <+: H → Reads .i64 H t g → g.length ≤ 16 → t.blk = d → t.nil = false → c ≠ d → B.length ≤ c → ∃ H' c', callF PP orc k f ([.sl 1 t] ++ caps) H = some (.bool (step st g).2, H') ∧ T c' (step st g) H' ∧ Adv2 b c H H' ∧ (c' = c ∨ H.length ≤ c')
structure Adv3 (d b c : Nat) (H H' : Hp) : Prop where
 but : ∀ (e : Nat) (x : Option Blk), e ≠ d → e ≠ b → e ≠ c → H[e]? = some x → H'[e]? = some x
 le : H.length ≤ H'.length
theorem Adv3.refl (d b c : Nat) (H : Hp) : Adv3 d b c H H := ⟨fun _ _ _ _ _ h => h, Nat.le_refl _⟩
theorem Adv3.trans {d b c c' : Nat} {H H1 H2 : Hp} (h : Adv3 d b c H H1) (h' : Adv3 d b c' H1 H2) (hc : c' = c ∨ H.length ≤ c') : Adv3 d b c H H2 :=
 ⟨fun e x h1 h2 h3 hx => by
  have hd := (List.getElem?_eq_some_iff.1 hx).1
  exact h'.but e x h1 h2 (by omega) (h.but e x h1 h2 h3 hx), Nat.le_trans h.le h'.le⟩
theorem pf_adv3 {d b c : Nat} {H H' : Hp} (g : H <+: H') : Adv3 d b c H H' := ⟨fun e x _ _ _ hx => pf_get g hx, g.length_le⟩
theorem adv_adv3 {d b c : Nat} {H H' : Hp} (g : Adv d H H') : Adv3 d b c H H' := ⟨fun e x h1 _ _ hx => g.but e x h1 hx, g.le⟩
theorem adv2_adv3 {d b c : Nat} {H H' : Hp} (g : Adv2 b c H H') : Adv3 d b c H H' := ⟨fun e x _ h2 h3 hx => g.but e x h2 h3 hx, g.le⟩
theorem Adv3.pf {d b c : Nat} {H H' B : Hp} (h : Adv3 d b c H H') (hd : B.length ≤ d) (hb : B.length ≤ b) (hc : B.length ≤ c) (g : B <+: H) : B <+: H' := by
 have hl0 := g.length_le
 have hle := h.le
 rw [List.prefix_iff_eq_take]
 apply List.ext_getElem?
 intro i
 by_cases hi : i < B.length
 ·rw [List.getElem?_take, if_pos hi]
  have e := List.getElem?_eq_getElem hi
  rw [e, h.but i _ (by omega) (by omega) (by omega) (pf_get g e)]
 ·rw [List.getElem?_eq_none (by omega), List.getElem?_eq_none (by simp; omega)]
structure Bx (H : Hp) (gb tb yb nb pb : Nat) (n : Int) (gs ps ss : Sl) (f : FuncId) (caps : List AV) : Prop where
 bg : H[gb]? = some (some ⟨false, [.sl 1 gs]⟩)
 bt : H[tb]? = some (some ⟨false, [.fn f caps]⟩)
 bo : H[yb]? = some (some ⟨false, [.fn impl_solutions_1.id [.ptr gb 0, .ptr tb 0, .ptr yb 0, .ptr nb 0, .ptr pb 0]]⟩)
 bn : H[nb]? = some (some ⟨false, [.int .i64 n]⟩)
 bp : H[pb]? = some (some ⟨false, [.int .i64 n, .sl 1 ps, .sl 3 ss]⟩)
def Five (x gb tb yb nb pb : Nat) : Prop := gb ≠ x ∧ tb ≠ x ∧ yb ≠ x ∧ nb ≠ x ∧ pb ≠ x
theorem Bx.adv {H H' : Hp} {gb tb yb nb pb : Nat} {n : Int} {gs ps ss : Sl} {f : FuncId} {caps : List AV} (h : Bx H gb tb yb nb pb n gs ps ss f caps) {d b c : Nat} (a : Adv3 d b c H H') (hd : Five d gb tb yb nb pb) (hb : Five b gb tb yb nb pb) (hc : Five c gb tb yb nb pb) : Bx H' gb tb yb nb pb n gs ps ss f caps := by
 obtain ⟨d1, d2, d3, d4, d5⟩ := hd
 obtain ⟨b1, b2, b3, b4, b5⟩ := hb
 obtain ⟨c1, c2, c3, c4, c5⟩ := hc
 exact ⟨a.but _ _ d1 b1 c1 h.bg, a.but _ _ d2 b2 c2 h.bt, a.but _ _ d3 b3 c3 h.bo, a.but _ _ d4 b4 c4 h.bn, a.but _ _ d5 b5 c5 h.bp⟩
theorem Bx.five {H : Hp} {gb tb yb nb pb : Nat} {n : Int} {gs ps ss : Sl} {f : FuncId} {caps : List AV} (h : Bx H gb tb yb nb pb n gs ps ss f caps) {c : Nat} (hc : H.length ≤ c) : Five c gb tb yb nb pb := by
 have h1 := (List.getElem?_eq_some_iff.1 h.bg).1
 have h2 := (List.getElem?_eq_some_iff.1 h.bt).1
 have h3 := (List.getElem?_eq_some_iff.1 h.bo).1
 have h4 := (List.getElem?_eq_some_iff.1 h.bn).1
 have h5 := (List.getElem?_eq_some_iff.1 h.bp).1
 exact ⟨by omega, by omega, by omega, by omega, by omega⟩
theorem okSol : okF PP impl_solutions_1.id = true := by kernel_rfl
theorem box_fn {H : Hp} {b : Nat} {f : FuncId} {cs : List AV} (h : H[b]? = some (some ⟨false, [.fn f cs]⟩)) : ldF H b 0 = some (f, cs) := by unfold ldF Hp.cell; rw [h]; simp [AV.toF]
theorem set_set (l : List Int) (i : Nat) (a b : Int) : (l.set i a).set i b = l.set i b := by
 apply List.ext_getElem?
 intro j
 by_cases e : i = j
 ·subst e
  by_cases h : i < l.length
  ·rw [List.getElem?_set_self (by simpa using h), List.getElem?_set_self h]
  ·rw [List.getElem?_eq_none (by simp; omega), List.getElem?_eq_none (by simp; omega)]
 ·rw [List.getElem?_set_ne e, List.getElem?_set_ne e, List.getElem?_set_ne e]
theorem set_same (l : List Int) (i : Nat) (h : l.getD i 0 = 0) : l.set i 0 = l := by
 apply List.ext_getElem?
 intro j
 by_cases e : i = j
 ·subst e
  by_cases hi : i < l.length
  ·rw [List.getElem?_set_self hi, List.getElem?_eq_getElem hi]
   rw [List.getD_eq_getElem?_getD, List.getElem?_eq_getElem hi] at h
   simp at h; rw [h]
  ·rw [List.getElem?_eq_none (by simp; omega), List.getElem?_eq_none (by omega)]
 ·rw [List.getElem?_set_ne e]
def SolTo {σ : Type} (B : Hp) (b : Nat) (gs : Sl) (T : Nat → σ × Bool → Hp → Prop) (c : Nat) (H : Hp) (g : List Int) (R : σ × Bool) (r : An) : Prop :=
 ∃ H' c' g', r = some (.bool R.2, H') ∧ B <+: H' ∧ Adv3 gs.blk b c H H' ∧ Own 1 B H' gs (g'.map (.int .i64)) ∧ g'.length = g.length ∧ (R.2 = true → g' = g) ∧ T c' R H' ∧ (c' = c ∨ H.length ≤ c')
theorem fr_step {b c0 c d : Nat} {H0 H H1 : Hp} (hf : Adv2 b c0 H0 H) (ha : Adv3 d b c H H1) (hd : H0.length ≤ d) (hc : c = c0 ∨ H0.length ≤ c) : Adv2 b c0 H0 H1 :=
 ⟨fun e x h1 h2 hx => by
  have he := (List.getElem?_eq_some_iff.1 hx).1
  exact ha.but e x (by omega) h1 (by omega) (hf.but e x h1 h2 hx), Nat.le_trans hf.le ha.le⟩
theorem Sol_ok {B : Hp} {f : FuncId} {caps : List AV} {b : Nat} {gs ps ss : Sl} {σ : Type} {step : σ → List Int → σ × Bool} {T : Nat → σ × Bool → Hp → Prop} {K : Nat} (tell : Tell B f caps b gs.blk step T K) {gb tb yb nb pb : Nat} {n : Int} {given : List Int} {rs : List R} {H0 : Hp} {c0 : Nat} (hn : 2 ≤ n ∧ n ≤ 4) (hzk : ∀ H, Adv2 b c0 H0 H → PuzAt H n ps ss given rs) (hd0 : H0.length ≤ gs.blk) (hro : ∀ r ∈ rs, R.ok n r = true) (hgg : gridOk given n = true) (hd5 : Five gs.blk gb tb yb nb pb) (hb5 : Five b gb tb yb nb pb) :
  ∀ (rem k : Nat), K + 2000200 + rem ≤ k → ∀ (H : Hp) (g : List Int) (c : Nat) (st : σ), rem ≤ g.length → B <+: H → Bx H gb tb yb nb pb n gs ps ss f caps → Five c gb tb yb nb pb → c ≠ gs.blk → B.length ≤ c → Own 1 B H gs (g.map (.int .i64)) → gridOk g n = true → Le given g → fitsV n given (rs.map R.val) g = true → T c (st, true) H → Adv2 b c0 H0 H → (c = c0 ∨ H0.length ≤ c) →
   SolTo B b gs T c H g (runL step st (sols (fitsV n given (rs.map R.val)) n.toNat rem g)) (callF PP orc k impl_solutions_1.id [.int .i64 ((g.length - rem : Nat) : Int), .ptr gb 0, .ptr tb 0, .ptr yb 0, .ptr nb 0, .ptr pb 0] H) := by
 have hrv : ∀ r ∈ rs.map R.val, ruleOkV n r = true := by
  intro r hr
  obtain ⟨q, hq, e⟩ := List.mem_map.1 hr
  rw [← e]; exact hro q hq
 have hgiv : ∀ x, 0 ≤ given.getD x 0 := fun x => by
  have hgb := ((gridOk_iff given n).1 hgg).2.2
  by_cases h : x < given.length
  ·exact (hgb _ (mem_getD h)).1
  ·rw [List.getD_eq_getElem?_getD, List.getElem?_eq_none (by omega)]; simp
 intro rem
 induction rem with
 | zero =>
  intro k hk H g c st hrem hB hbx hc5 hcd hcB ho hg hle hf hT hfr hc0
  obtain ⟨k, rfl⟩ := Zs k (by omega)
  rw [impl_solutions_1.call]
  have rg := own_reads ho
  have hgl := rg.len
  have h16 := gridOk_len hg
  obtain ⟨H', c', a1, a2, a3, a4⟩ := tell.go k (by omega) c st H gs g hT hB rg h16 rfl ho.nn hcd hcB
  rw [sols, runL_one]
  have adv : Adv3 gs.blk b c H H' := adv2_adv3 a3
  refine ⟨H', c', g, ?_, adv.pf ho.blk tell.bB hcB hB, adv, a3.own (Ne.symm tell.bd) (Ne.symm hcd) ho, rfl, fun _ => rfl, a2, a4⟩
  have hcg : ([.sl 1 gs] ++ caps : List AV).all AV.glob = true := by rw [List.all_append, tell.gl]; rfl
  simp (disch := omega) only [impl_solutions_1.f, dt, df, bt, bf, nt, nf, Za, Zy, Zx, Zt, Zf, Zn, Zz, Zi, Zo, wr, AV.toB, AV.toI, AV.toS, if_true, box_sl hbx.bg, box_fn hbx.bt, tell.ok, hcg, a1]
 | succ rem ih =>
  intro k hk H g c st hrem hB hbx hc5 hcd hcB ho hg hle hf hT hfr hc0
  obtain ⟨k, rfl⟩ := Zs k (by omega)
  rw [impl_solutions_1.call]
  have rg := own_reads ho
  have hgl := rg.len
  have h16 := gridOk_len hg
  have hat : g.length - (rem + 1) < g.length := by omega
  rw [sols]
  generalize hA : g.length - (rem + 1) = at' at hat ⊢
  have hnext : IntKind.i64.wrap ((at' : Int) + 1) = ((g.length - rem : Nat) : Int) := by rw [wr (by omega) (by omega)]; omega
  have hfy := box_fn hbx.bo
  have hcg : ∀ z : Int, ([.int .i64 z, .ptr gb 0, .ptr tb 0, .ptr yb 0, .ptr nb 0, .ptr pb 0] : List AV).all AV.glob = true := fun z => rfl
  by_cases c0 : 0 < g.getD at' 0
  ·rw [ip c0]
   have h1 := ih k (by omega) H g c st (by omega) hB hbx hc5 hcd hcB ho hg hle hf hT hfr hc0
   rw [← hnext] at h1
   obtain ⟨H', c', g', e1, e2⟩ := h1
   refine ⟨H', c', g', ?_, e2⟩
   simp only [impl_solutions_1.f, box_sl hbx.bg, Zo, bf (show (at' : Int) ≠ (gs.len : Int) by omega), Zf, Zt, dt (show (0 : Int) ≤ (at' : Int) by omega), dt (show (at' : Int) < (gs.len : Int) by omega), Za, Zn, rdn rg hat, dt (show g.getD at' 0 > 0 from c0), hfy, okSol, hcg, List.cons_append, List.nil_append, e1, AV.toB]
  ·rw [iN c0]
   have hv0 := ((gridOk_iff g n).1 hg).2.2 _ (mem_getD hat)
   have h0 : g.getD at' 0 = 0 := by omega
   have loop : ∀ (j fuel : Nat) (v x : Int) (Hc : Hp) (cc : Nat) (sc : σ), v + j = n + 1 → 1 ≤ v → j < fuel → B <+: Hc → Bx Hc gb tb yb nb pb n gs ps ss f caps → Five cc gb tb yb nb pb → cc ≠ gs.blk → B.length ≤ cc → Own 1 B Hc gs ((g.set at' x).map (.int .i64)) → T cc (sc, true) Hc → Adv3 gs.blk b c H Hc → (cc = c ∨ H.length ≤ cc) →
     SolTo B b gs T c H g (runL step sc ((upto j v).flatMap fun v => if fitsV n given (rs.map R.val) (g.set at' v) = true then sols (fitsV n given (rs.map R.val)) n.toNat rem (g.set at' v) else [])) (impl_solutions_1.l0 (callF PP orc k) k fuel at' gb 0 yb 0 nb 0 pb 0 v Hc) := by
    intro j
    induction j with
    | zero =>
     intro fuel v x Hc cc sc hv hv1 hfu hBc hbc hcc5 hccd hccB hoc hTc hadv hcc
     obtain ⟨fuel, rfl⟩ := Zs fuel (by omega)
     obtain ⟨H1, a1, a2, a3, a4⟩ := own_set1 hoc hBc at' (by simpa using hat) 0
     have hgl1 := (own_reads hoc).len
     simp only [List.length_set] at hgl1
     rw [set_set, set_same g at' h0] at a3
     have hld : ldI .i64 Hc nb 0 = some n := by unfold ldI Hp.cell; rw [hbc.bn]; simp [AV.toI]
     have hl1 : H1.length = Hc.length := by
      have := own_sto hoc hBc at' [.int .i64 0] (by simp; omega)
      obtain ⟨H2, q1, q2, q3, q4, q5⟩ := this
      rw [Nat.mul_one] at a1
      rw [a1] at q1
      simp only [Option.some.injEq] at q1
      rw [q1]; exact q5
     refine ⟨H1, cc, g, ?_, a2, hadv.trans (adv_adv3 a4) (.inl rfl), a3, rfl, fun _ => rfl, tell.wr _ _ _ _ hTc a4.but hl1, hcc⟩
     simp only [upto, List.flatMap_nil, runL]
     simp (disch := omega) only [impl_solutions_1.l0, impl_solutions_1.j2, dt, df, bt, bf, nt, nf, Za, Zy, Zx, Zt, Zf, Zn, Zz, Zi, Zo, wr, AV.toB, AV.toI, AV.toS, if_true, hld, box_sl hbc.bg, a1]
    | succ j ihj =>
     intro fuel v x Hc cc sc hv hv1 hfu hBc hbc hcc5 hccd hccB hoc hTc hadv hcc
     obtain ⟨fuel, rfl⟩ := Zs fuel (by omega)
     have hld : ldI .i64 Hc nb 0 = some n := by unfold ldI Hp.cell; rw [hbc.bn]; simp [AV.toI]
     have hgl1 := (own_reads hoc).len
     simp only [List.length_set] at hgl1
     obtain ⟨H1, a1, a2, a3, a4⟩ := own_set1 hoc hBc at' (by simpa using hat) v
     rw [set_set] at a3
     have hl1 : H1.length = Hc.length := by
      have := own_sto hoc hBc at' [.int .i64 v] (by simp; omega)
      obtain ⟨H2, q1, q2, q3, q4, q5⟩ := this
      rw [Nat.mul_one] at a1
      rw [a1] at q1
      simp only [Option.some.injEq] at q1
      rw [q1]; exact q5
     have hT1 := tell.wr _ _ _ _ hTc a4.but hl1
     have hb1 := hbc.adv (adv_adv3 (b := b) (c := cc) a4) hd5 hb5 hcc5
     have hg1 := grid_set hg at' v ⟨by omega, by omega⟩
     have r1 : ldI .i64 H1 pb 0 = some n := by unfold ldI Hp.cell; rw [hb1.bp]; simp [AV.toI]
     have r2 : ldS 1 H1 pb (0 + 1) = some ps := by unfold ldS Hp.cell; rw [hb1.bp]; simp [AV.toS]
     have r3 : ldS 3 H1 pb (0 + 1 + 1) = some ss := by unfold ldS Hp.cell; rw [hb1.bp]; simp [AV.toS]
     obtain ⟨H2, d1, d2⟩ := cellFits_ok (show 2000042 ≤ k by omega) (hzk H1 (fr_step hfr (hadv.trans (adv_adv3 (b := b) (c := cc) a4) hcc) hd0 hc0)) hro (own_reads a3) hg1 (at' := at') (by simpa using hat)
     rw [← fits_step hf hg hle hgiv hat h0 ⟨hv1, by omega⟩ hrv] at d1
     have hT2 := tell.pf _ _ _ _ hT1 d2
     have hb2 := hb1.adv (pf_adv3 (d := gs.blk) (b := b) (c := cc) d2) hd5 hb5 hcc5
     have hB2 := a2.trans d2
     have adv2 : Adv3 gs.blk b c H H2 := (hadv.trans (adv_adv3 (b := b) (c := cc) a4) hcc).trans (pf_adv3 (b := b) (c := cc) d2) hcc
     rw [upto, List.flatMap_cons, runL_app]
     cases cf : fitsV n given (rs.map R.val) (g.set at' v) with
     | true =>
      rw [cf] at d1
      rw [ip rfl]
      obtain ⟨H3, c3, g3, e1, e2, e3, e4, e5, e6, e7, e8⟩ := ih k (by omega) H2 (g.set at' v) cc sc (by simp; omega) hB2 hb2 hcc5 hccd hccB (own_pf a3 d2) hg1 (hle.trans (by
       refine ⟨by simp, fun i => ?_⟩
       rw [getD_set]
       by_cases e : at' = i
       ·subst e; exact .inl h0
       ·rw [if_neg (by omega)]; exact .inr rfl)) cf hT2 (fr_step hfr adv2 hd0 hc0) (by have := hfr.le; omega)
      rw [List.length_set, ← hnext] at e1
      have hc3 : c3 = c ∨ H.length ≤ c3 := by
       have := adv2.le
       rcases e8 with h | h
       ·rw [h]; exact hcc
       ·right; omega
      have adv3 := adv2.trans e3 hcc
      have hfy2 := box_fn hb2.bo
      cases hr : (runL step sc (sols (fitsV n given (rs.map R.val)) n.toNat rem (g.set at' v))).2 with
      | true =>
       rw [hr] at e1
       rw [ip rfl]
       have hg3 := e6 hr
       subst hg3
       have hc35 : Five c3 gb tb yb nb pb := by
        rcases e8 with h | h
        ·rw [h]; exact hcc5
        ·exact hb2.five h
       have hd3 := own_lt' (own_pf a3 d2)
       have hc3d : c3 ≠ gs.blk := by rcases e8 with h | h; rw [h]; exact hccd; omega
       have hc3B : B.length ≤ c3 := by have := hB2.length_le; rcases e8 with h | h; rw [h]; exact hccB; omega
       obtain ⟨H4, c4, g4, f1, f2⟩ := ihj fuel (v + 1) v H3 c3 _ (by omega) (by omega) (by omega) e2 (hb2.adv e3 hd5 hb5 hcc5) hc35 hc3d hc3B e4 (by have e7' := e7; rw [← hr]; exact e7') adv3 hc3
       refine ⟨H4, c4, g4, ?_, f2⟩
       simp (disch := omega) only [impl_solutions_1.l0, impl_solutions_1.j1, impl_solutions_1.j3, dt, Za, Zy, Zt, Zf, Zn, Zo, hld, box_sl hbc.bg, a1, r1, r2, r3, box_sl hb1.bg, d1, AV.toB, hfy2, okSol, hcg, List.cons_append, List.nil_append, e1, wr (n := v + 1), f1]
      | false =>
       rw [hr] at e1
       rw [iN (by simp)]
       refine ⟨H3, c3, g3, ?_, e2, adv3, e4, by simpa using e5, (fun h => by rw [hr] at h; cases h), e7, hc3⟩
       rw [hr]
       simp (disch := omega) only [impl_solutions_1.l0, impl_solutions_1.j1, impl_solutions_1.j3, dt, Za, Zx, Zt, Zf, Zn, Zo, hld, box_sl hbc.bg, a1, r1, r2, r3, box_sl hb1.bg, d1, AV.toB, hfy2, okSol, hcg, List.cons_append, List.nil_append, e1]
     | false =>
      rw [cf] at d1
      simp only [Bool.false_eq_true, if_false, runL, if_true]
      obtain ⟨H4, c4, g4, f1, f2⟩ := ihj fuel (v + 1) v H2 cc sc (by omega) (by omega) (by omega) hB2 hb2 hcc5 hccd hccB (own_pf a3 d2) hT2 adv2 hcc
      refine ⟨H4, c4, g4, ?_, f2⟩
      simp (disch := omega) only [impl_solutions_1.l0, impl_solutions_1.j1, impl_solutions_1.j3, dt, Za, Zt, Zf, Zn, Zo, hld, box_sl hbc.bg, a1, r1, r2, r3, box_sl hb1.bg, d1, AV.toB, wr (n := v + 1), f1]
   have hset : g.set at' 0 = g := set_same g at' h0
   obtain ⟨H4, c4, g4, f1, f2⟩ := loop n.toNat k 1 0 H c st (by omega) (by omega) (by omega) hB hbx hc5 hcd hcB (by rw [hset]; exact ho) hT (Adv3.refl _ _ _ _) (.inl rfl)
   refine ⟨H4, c4, g4, ?_, f2⟩
   simp only [impl_solutions_1.f, box_sl hbx.bg, Zo, bf (show (at' : Int) ≠ (gs.len : Int) by omega), Zf, Zt, dt (show (0 : Int) ≤ (at' : Int) by omega), dt (show (at' : Int) < (gs.len : Int) by omega), Za, Zn, rdn rg hat, df (show ¬ g.getD at' 0 > 0 from c0), f1]
theorem readsL0 {B H : Hp} {t : Sl} {ls : List (List Int)} (h : ReadsL B H t ls) (hl : 0 < ls.length) : ∃ u, ldS 1 H t.blk (t.off + 0 * 1) = some u ∧ Own 1 B H u (ls[0].map (.int .i64)) := by
 obtain ⟨u, a, b⟩ := h.at' 0 hl
 refine ⟨u, ?_, b⟩
 unfold ldS
 rw [Nat.zero_mul, a]; simp [AV.toS]
def firstV (n : Int) (given : List Int) (vs : List V) : Option (List Int) := (allSols n given vs).head?
end Go.Proofs.Ytchliocobgkmbaa.Rp
