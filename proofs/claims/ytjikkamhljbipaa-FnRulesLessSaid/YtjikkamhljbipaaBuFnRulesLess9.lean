/- Texts for the row of the law FnRulesLess, part 9: the plain machine, the program's functions on it, what they come to. No conditions. -/
import Derived.Test.YtjikkamhljbipaaBuFnRulesLess8
import Derived.Test.YtjikkamhljbipaaBuFnRulesLess3
import Derived.Test.YtjikkamhljbipaaBuFnRulesLess4
/- The ways in which a rule holds, and the masks of a rule: the model's side of the program. No conditions. -/
set_option linter.unusedVariables false
set_option linter.unusedSimpArgs false
namespace Go.Proofs.Ytjikkamhljbipaa.Rp
open Go Go.RowKit Go.Proofs.Ytjikkamhljbipaa.Ab

/-! ### More of the kit -/
theorem mem_getD {l : List Int} {i : Nat} (h : i < l.length) : l.getD i 0 ∈ l := by
  rw [List.getD_eq_getElem?_getD, List.getElem?_eq_getElem h]; exact List.getElem_mem h
theorem own_set1 {H0 H : Hp} {s : Sl} {l : List Int} {k : IntKind} (h : Own 1 H0 H s (l.map (.int k))) (g : H0 <+: H) (i : Nat) (hi : i < l.length) (n : Int) :
    ∃ H', H.sto s.blk (s.off + i * 1) [.int k n] = some H' ∧ H0 <+: H' ∧ Own 1 H0 H' s ((l.set i n).map (.int k)) ∧ Adv s.blk H H' := by
  obtain ⟨H', a1, a2, a3, a4, a5⟩ := own_set h g i hi n
  exact ⟨H', by rw [Nat.mul_one]; exact a1, a2, a3, ⟨a4, by omega⟩⟩
theorem stable_ok {H H' : Hp} {k : IntKind} {s : Sl} {l : List Int} (h : Reads k H s l) (h' : Reads k H' s l) {i : Nat} (hi : i < l.length) : stableB H H' s.blk (s.off + i * 1) 1 = true := by
  unfold stableB
  have e1 := h.cell i hi
  have e2 := h'.cell i hi
  simp [e1, e2, AV.same]
theorem own_lt' {sz : Nat} {H0 H : Hp} {s : Sl} {c : List AV} (h : Own sz H0 H s c) : s.blk < H.length := (List.getElem?_eq_some_iff.1 h.get).1
/-- A copy of a list with a number behind it. -/
theorem copy_app {H : Hp} {s : Sl} {l : List Int} (hs : Reads .i64 H s l) (hl : l.length ≤ 1000) (v : Int) :
    ∃ H', (H ++ [some (Blk.mk false (l.map (.int .i64)))]).app 1 (Sl.mk false H.length 0 l.length) 1 [.int .i64 v] = some (Sl.mk false (H.length + 1) 0 (l.length + 1), H') ∧ H <+: H' ∧ Own 1 H H' (Sl.mk false (H.length + 1) 0 (l.length + 1)) ((l ++ [v]).map (.int .i64)) := by
  obtain ⟨H', a1, a2, a3, a4, a5⟩ := own_app1 (own_new 1 H (l.map (.int .i64)) l.length (by simp)) (List.prefix_append _ _) v (by simp only; omega)
  exact ⟨H', by simpa using a1, a2, by simpa using a3⟩

/-! ### Lengths and bounds of the model -/
def Ms (l : List Int) : Prop := ∀ m ∈ l, M m
theorem Ms.at {l : List Int} (h : Ms l) (i : Nat) : M (l.getD i 0) := by
  by_cases hi : i < l.length
  · exact h _ (mem_getD hi)
  · rw [List.getD_eq_getElem?_getD, List.getElem?_eq_none (by omega)]; exact ⟨by decide, by decide⟩
theorem Ms.set {l : List Int} (h : Ms l) (i : Nat) {v : Int} (hv : M v) : Ms (l.set i v) := fun m hm => by
  rcases List.mem_or_eq_of_mem_set hm with hm | hm
  · exact h m hm
  · rw [hm]; exact hv
theorem orFrom_ok {vals : List Int} (hv : Vals vals) : ∀ (j i : Nat) {fl : List Int}, Ms fl → Ms (orFrom vals fl i j) ∧ (orFrom vals fl i j).length = fl.length
  | 0, i, fl, h => ⟨h, rfl⟩
  | j + 1, i, fl, h => by
    have := orFrom_ok hv j (i + 1) (fl := fl.set i (mOr (fl.getD i 0) (pw (vals.getD i 0)))) (h.set i (M.or (h.at i) (M.pw (hv.at i).1 (hv.at i).2)))
    exact ⟨this.1, by rw [orFrom, this.2, List.length_set]⟩
theorem Vals.app {l : List Int} (h : Vals l) (hl : l.length < 4) {v : Int} (hv : 0 ≤ v ∧ v ≤ 4) : Vals (l ++ [v]) :=
  ⟨by simp; omega, fun x hx => by
    rcases List.mem_append.1 hx with hx | hx
    · exact h.2 x hx
    · simp at hx; rw [hx]; exact hv⟩
theorem ways_ok (h : List Int → Bool) : ∀ (ms vals fl : List Int), Vals vals → vals.length + ms.length ≤ 4 → Ms fl → Ms (ways h ms vals fl) ∧ (ways h ms vals fl).length = fl.length
  | [], vals, fl, hv, _, hf => by
    rw [ways]
    split
    · exact orFrom_ok hv _ _ hf
    · exact ⟨hf, rfl⟩
  | m :: ms, vals, fl, hv, hl, hf => by
    rw [ways]
    have key : ∀ (l : List Int) (fl : List Int), (∀ v ∈ l, 1 ≤ v ∧ v ≤ 4) → Ms fl → Ms (l.foldl (fun f v => ways h ms (vals ++ [v]) f) fl) ∧ (l.foldl (fun f v => ways h ms (vals ++ [v]) f) fl).length = fl.length := by
      intro l
      induction l with
      | nil => intro fl _ hf; exact ⟨hf, rfl⟩
      | cons v l ih =>
        intro fl hl' hf
        have hv' := hl' v (by simp)
        simp only [List.length_cons] at hl
        have := ways_ok h ms (vals ++ [v]) fl (hv.app (by omega) ⟨by omega, hv'.2⟩) (by simp; omega) hf
        have h2 := ih _ (fun x hx => hl' x (by simp [hx])) this.1
        exact ⟨h2.1, h2.2.trans this.2⟩
    exact key _ fl (fun v hv => maskVals_mem hv) hf

/-! ### spec.l4Ways -/
theorem l4Ways_l0 (rec : Rec) (k : Nat) {H0 : Hp} {vs fs : Sl} {vals : List Int} (hv : Vals vals) {n : Nat} (hn : n = vals.length) :
    ∀ (j i fuel : Nat) (H : Hp) (fl : List Int), i + j = n → j < fuel → H0 <+: H → Reads .i64 H vs vals → vs.blk ≠ fs.blk → Ms fl → n ≤ fl.length → Own 1 H0 H fs (fl.map (.int .i64)) →
      ∃ H', spec_l4Ways.l0 rec k fuel vs fs n i H = some (.tup [], H') ∧ H0 <+: H' ∧ Adv fs.blk H H' ∧ Own 1 H0 H' fs ((orFrom vals fl i j).map (.int .i64)) := by
  have hl := hv.1
  intro j
  induction j with
  | zero =>
    intro i fuel H fl hi hf hp hs hne hm hfl ho
    obtain ⟨fuel, rfl⟩ : ∃ q, fuel = q + 1 := ⟨fuel - 1, by omega⟩
    exact ⟨H, by simp (disch := omega) only [spec_l4Ways.l0, dt, df, bt, bf, nt, nf, Bool.and_self, Bool.not_true, Bool.not_false, cond_true, cond_false, Int.toNat_natCast, Int.toNat_zero, Int.toNat_one, Option.bind_some, wr, AV.toB, AV.toI, AV.toS, if_true], hp, Adv.refl _ _, ho⟩
  | succ j ih =>
    intro i fuel H fl hi hf hp hs hne hm hfl ho
    obtain ⟨fuel, rfl⟩ : ∃ q, fuel = q + 1 := ⟨fuel - 1, by omega⟩
    have hfs : fs.len = fl.length := by have := ho.len; simpa using this
    have hvl := hs.len
    obtain ⟨v0, v1⟩ := hv.at i
    obtain ⟨H1, a1, a2, a3, a4⟩ := own_set1 ho hp i (by omega) (mOr (fl.getD i 0) (pw (vals.getD i 0)))
    obtain ⟨H', b1, b2, b3, b4⟩ := ih (i + 1) fuel H1 _ (by omega) (by omega) a2 (a4.reads hne hs) hne (hm.set i (M.or (hm.at i) (M.pw v0 v1))) (by simpa using hfl) a3
    push_cast at b1
    refine ⟨H', ?_, b2, a4.trans b3, b4⟩
    simp (disch := omega) only [spec_l4Ways.l0, dt, df, bt, bf, nt, nf, Bool.and_self, Bool.not_true, Bool.not_false, cond_true, cond_false, Int.toNat_natCast, Int.toNat_zero, Int.toNat_one, Option.bind_some, wr, AV.toB, AV.toI, AV.toS, if_true, rdn (own_reads ho), rdn hs, iN, m_shl v0, m_or (hm.at i) (M.pw v0 v1), a1, b1]

/-- What is asked of the lists of a rule. -/
structure RuleAt (H : Hp) (cs ms : Sl) (kind : Int) (cells masks : List Int) : Prop where
  rc : Reads .i64 H cs cells
  rm : Reads .i64 H ms masks
  cl : cells.length ≤ 4
  ci : ∀ c ∈ cells, 0 ≤ c ∧ c < (masks.length : Int)
  ml : masks.length ≤ 1000
  k2 : (kind = 1 ∨ kind = 2 ∨ kind = 3) ∨ 2 ≤ cells.length

theorem l4Ways_ok {kind value : Int} {cs ms fs : Sl} {H0 : Hp} {cells masks : List Int} (hr : RuleAt H0 cs ms kind cells masks) :
    ∀ (rem k : Nat), 2000010 + rem ≤ k → ∀ (H : Hp) (vs : Sl) (vals fl : List Int), vals.length + rem = cells.length → H0 <+: H → Reads .i64 H vs vals → vs.blk ≠ fs.blk → Vals vals → fl.length = cells.length → Ms fl → Own 1 H0 H fs (fl.map (.int .i64)) →
      ∃ H', callF PP orc k spec_l4Ways.id [.agg [.int .i64 kind, .sl 1 cs, .int .i64 value], .sl 1 ms, .sl 1 vs, .sl 1 fs] H = some (.tup [], H') ∧ H0 <+: H' ∧ Adv fs.blk H H' ∧ Own 1 H0 H' fs ((ways (holdsV kind value) (ownOf masks (cells.drop vals.length)) vals fl).map (.int .i64)) := by
  have hcl := hr.cl
  intro rem
  induction rem with
  | zero =>
    intro k hk H vs vals fl hl hp hs hne hv hfl hm ho
    obtain ⟨k, rfl⟩ : ∃ q, k = q + 1 := ⟨k - 1, by omega⟩
    rw [spec_l4Ways.call]
    have hc := hr.rc.len
    have hvl := hs.len
    have k2 := hr.k2
    have h1 := l4Holds_full (show 2000 ≤ k by omega) (kind := kind) (value := value) (cs := cs) hs hv (by omega)
    have e : ownOf masks (cells.drop vals.length) = [] := by rw [List.drop_eq_nil_of_le (by omega)]; rfl
    rw [e, ways]
    cases hh : holdsV kind value vals with
    | true =>
      rw [hh] at h1
      obtain ⟨H', b1, b2, b3, b4⟩ := l4Ways_l0 (callF PP orc k) k hv rfl vals.length 0 k H fl (by omega) (by omega) hp hs hne hm (by omega) ho
      refine ⟨H', ?_, b2, b3, b4⟩
      simp only [Int.natCast_zero] at b1
      simp (disch := omega) only [spec_l4Ways.f, dt, df, bt, bf, nt, nf, Bool.and_self, Bool.not_true, Bool.not_false, cond_true, cond_false, Int.toNat_natCast, Int.toNat_zero, Int.toNat_one, Option.bind_some, wr, AV.toB, AV.toI, AV.toS, if_true, h1, hvl, b1]
    | false =>
      rw [hh] at h1
      refine ⟨H, ?_, hp, Adv.refl _ _, by simpa using ho⟩
      simp (disch := omega) only [spec_l4Ways.f, dt, df, bt, bf, nt, nf, Bool.and_self, Bool.not_true, Bool.not_false, cond_true, cond_false, Int.toNat_natCast, Int.toNat_zero, Int.toNat_one, Option.bind_some, wr, AV.toB, AV.toI, AV.toS, if_true, h1]
  | succ rem ih =>
    intro k hk H vs vals fl hl hp hs hne hv hfl hm ho
    obtain ⟨k, rfl⟩ : ∃ q, k = q + 1 := ⟨k - 1, by omega⟩
    rw [spec_l4Ways.call]
    have hc := hr.rc.len
    have hml := hr.rm.len
    have hvl := hs.len
    have hcv : vals.length < cells.length := by omega
    obtain ⟨c0, c1⟩ := hr.ci _ (mem_getD hcv)
    have hfb := own_lt' ho
    obtain ⟨ls, H1, a1, a2, a3⟩ := MaskValues_ok (show 2000000 ≤ k by omega) (masks.getD (cells.getD vals.length 0).toNat 0) H
    have hd : ownOf masks (cells.drop vals.length) = masks.getD (cells.getD vals.length 0).toNat 0 :: ownOf masks (cells.drop (vals.length + 1)) := by
      rw [List.drop_eq_getElem_cons hcv]
      have : cells.getD vals.length 0 = cells[vals.length] := by simp [List.getD_eq_getElem?_getD, hcv]
      rw [this]; rfl
    rw [hd, ways]
    generalize hmv : maskVals (masks.getD (cells.getD vals.length 0).toNat 0) = L at a3 ⊢
    have hL : ∀ v ∈ L, 1 ≤ v ∧ v ≤ 4 := fun v h => maskVals_mem (hmv ▸ h)
    have hL4 : L.length ≤ 4 := by
      rw [← hmv]; unfold maskVals; split
      · simp only [mvFrom]; repeat' split
        all_goals simp
      · simp
    have hlb : ls.blk ≠ fs.blk := by have := a3.blk; omega
    have loop : ∀ (j i fuel : Nat) (Hc : Hp) (fl : List Int), i + j = L.length → j < fuel → H0 <+: Hc → Adv fs.blk H1 Hc → fl.length = cells.length → Ms fl → Own 1 H0 Hc fs (fl.map (.int .i64)) →
        ∃ H', spec_l4Ways.l1 (callF PP orc k) k fuel ms vs fs ls i kind cs value Hc = some (.tup [], H') ∧ H0 <+: H' ∧ Adv fs.blk Hc H' ∧ Own 1 H0 H' fs (((L.drop i).foldl (fun f v => ways (holdsV kind value) (ownOf masks (cells.drop (vals.length + 1))) (vals ++ [v]) f) fl).map (.int .i64)) := by
      intro j
      induction j with
      | zero =>
        intro i fuel Hc fl hi hf hp' hadv hfl hm ho
        obtain ⟨fuel, rfl⟩ : ∃ q, fuel = q + 1 := ⟨fuel - 1, by omega⟩
        have hll := (own_reads a3).len
        rw [show L.drop i = [] from List.drop_eq_nil_of_le (by omega)]
        exact ⟨Hc, by simp (disch := omega) only [spec_l4Ways.l1, dt, df, bt, bf, nt, nf, Bool.and_self, Bool.not_true, Bool.not_false, cond_true, cond_false, Int.toNat_natCast, Int.toNat_zero, Int.toNat_one, Option.bind_some, wr, AV.toB, AV.toI, AV.toS, if_true], hp', Adv.refl _ _, ho⟩
      | succ j ihj =>
        intro i fuel Hc fl hi hf hp' hadv hfl hm ho
        obtain ⟨fuel, rfl⟩ : ∃ q, fuel = q + 1 := ⟨fuel - 1, by omega⟩
        have hll := (own_reads a3).len
        have hi2 : i < L.length := by omega
        have rl := hadv.reads hlb (own_reads a3)
        have rv := hadv.reads hne (pf_reads a2 hs)
        obtain ⟨w0, w1⟩ := hL _ (mem_getD hi2)
        obtain ⟨H2, d1, d2, d3⟩ := copy_app rv (by omega) (L.getD i 0)
        have hst := stable_ok rl (pf_reads (List.prefix_append Hc [some (Blk.mk false (vals.map (.int .i64)))]) rl) hi2
        have hw := ways_ok (holdsV kind value) (ownOf masks (cells.drop (vals.length + 1))) (vals ++ [L.getD i 0]) fl (hv.app (by omega) ⟨by omega, w1⟩) (by simp [ownOf]; omega) hm
        obtain ⟨H3, e1, e2, e3, e4⟩ := ih k (by omega) H2 (Sl.mk false (Hc.length + 1) 0 (vals.length + 1)) (vals ++ [L.getD i 0]) fl (by simp; omega) (hp'.trans d2) (own_reads d3) (by have := own_lt' ho; simp only; omega) (hv.app (by omega) ⟨by omega, w1⟩) hfl hm (own_pf ho d2)
        rw [List.length_append, List.length_singleton] at e4
        have adv3 : Adv fs.blk Hc H3 := (pf_adv d2).trans e3
        obtain ⟨H', f1, f2, f3, f4⟩ := ihj (i + 1) fuel H3 _ (by omega) (by omega) e2 (hadv.trans adv3) (by rw [hw.2]; exact hfl) hw.1 e4
        push_cast at f1
        have hdl : L.drop i = L.getD i 0 :: L.drop (i + 1) := by
          rw [List.drop_eq_getElem_cons hi2, List.getD_eq_getElem?_getD, List.getElem?_eq_getElem hi2]; rfl
        rw [hdl, List.foldl_cons]
        refine ⟨H', ?_, f2, adv3.trans f3, f4⟩
        simp (disch := omega) only [spec_l4Ways.l1, dt, df, bt, bf, nt, nf, Bool.and_self, Bool.not_true, Bool.not_false, cond_true, cond_false, Int.toNat_natCast, Int.toNat_zero, Int.toNat_one, Option.bind_some, wr, AV.toB, AV.toI, AV.toS, if_true, rdn rl, read_ok rv, hvl, appl_ok, cells_ok, hst, d1, e1, f1]
    obtain ⟨H', f1, f2, f3, f4⟩ := loop L.length 0 k H1 fl (by omega) (by omega) (hp.trans a2) (Adv.refl _ _) hfl hm (own_pf ho a2)
    refine ⟨H', ?_, f2, (pf_adv a2).trans f3, f4⟩
    simp only [Int.natCast_zero] at f1
    simp (disch := omega) only [spec_l4Ways.f, dt, df, bt, bf, nt, nf, Bool.and_self, Bool.not_true, Bool.not_false, cond_true, cond_false, Int.toNat_natCast, Int.toNat_zero, Int.toNat_one, Option.bind_some, wr, AV.toB, AV.toI, AV.toS, if_true, hvl, rdn (pf_reads hp hr.rc), rdn (pf_reads hp hr.rm), a1, f1]
end Go.Proofs.Ytjikkamhljbipaa.Rp
/- The masks of a rule, whether it can hold: the model's side of the program. No conditions. -/
set_option linter.unusedVariables false
set_option linter.unusedSimpArgs false
namespace Go.Proofs.Ytjikkamhljbipaa.Rp
open Go Go.RowKit Go.Proofs.Ytjikkamhljbipaa.Ab

theorem n7 {n : Int} (hb : -1 ≤ n ∧ n ≤ 5) : 0 ≤ n * n ∧ n * n ≤ 25 := by
  have : n = -1 ∨ n = 0 ∨ n = 1 ∨ n = 2 ∨ n = 3 ∨ n = 4 ∨ n = 5 := by omega
  rcases this with rfl | rfl | rfl | rfl | rfl | rfl | rfl <;> decide
theorem cellsOk_at {n : Int} {cells : List Int} : ∀ (j i : Nat), cellsOk n cells i j = true → ∀ m, i ≤ m → m < i + j → (0 ≤ cells.getD m 0 ∧ cells.getD m 0 ≤ n * n - 1) ∧ (cells.take m).contains (cells.getD m 0) = false
  | 0, i, _, m, h1, h2 => by omega
  | j + 1, i, h, m, h1, h2 => by
    rw [cellsOk] at h
    simp only [Bool.and_eq_true, decide_eq_true_eq, Bool.not_eq_true'] at h
    by_cases e : m = i
    · subst e; exact ⟨h.1, h.2.1⟩
    · exact cellsOk_at j (i + 1) h.2.2 m (by omega) (by omega)
theorem ruleOk_cells {n kind value : Int} {cells : List Int} (h : ruleOk n kind cells value = true) : (∀ c ∈ cells, 0 ≤ c ∧ c < n * n) ∧ cells.length ≤ 4 ∧ 1 ≤ cells.length ∧ ((kind = 1 ∨ kind = 2 ∨ kind = 3) ∨ 2 ≤ cells.length) := by
  unfold ruleOk at h
  rw [Bool.and_eq_true] at h
  refine ⟨fun c hc => ?_, ?_⟩
  · obtain ⟨m, hm, rfl⟩ := List.getElem_of_mem hc
    have := (cellsOk_at cells.length 0 h.1 m (by omega) (by omega)).1
    simp [List.getD_eq_getElem?_getD, hm] at this
    omega
  · have := h.2
    unfold kindOk at this
    split at this
    · simp only [decide_eq_true_eq] at this; omega
    · split at this
      · simp only [decide_eq_true_eq] at this; omega
      · split at this
        · simp only [decide_eq_true_eq] at this; omega
        · split at this
          · simp only [decide_eq_true_eq] at this; omega
          · cases this
theorem masksOk_iff {n : Int} {l : List Int} : masksOk n l = true ↔ (2 ≤ n ∧ n ≤ 4) ∧ (∀ m ∈ l, maskOk n m = true) ∧ (l.length : Int) = n * n := by
  unfold masksOk
  simp
theorem topMask_le (n : Int) : 6 ≤ topMask n ∧ topMask n ≤ 30 := by unfold topMask; split; omega; split <;> omega
theorem maskOk_M {n m : Int} (h : maskOk n m = true) : M m := by
  unfold maskOk at h
  simp only [Bool.and_eq_true, decide_eq_true_eq] at h
  have := topMask_le n
  exact ⟨h.1.1, by omega⟩
theorem topMask_pw {n : Int} (hn : 2 ≤ n ∧ n ≤ 4) : pw (n + 1) - 2 = topMask n ∧ 8 ≤ pw (n + 1) ∧ pw (n + 1) ≤ 32 := by
  have : n = 2 ∨ n = 3 ∨ n = 4 := by omega
  rcases this with rfl | rfl | rfl <;> decide

/-! ### Sizes that are none -/
theorem specRule_l0_bad {k : Nat} (hk : 2000001 ≤ k) {n kind value : Int} {cs : Sl} {H : Hp} {cells : List Int} (hb : -1 ≤ n ∧ n ≤ 5) (hn : ¬ (2 ≤ n ∧ n ≤ 4)) (hs : Reads .i64 H cs cells) (hl : cells.length ≤ 1000) :
    ∀ (j i fuel : Nat), i + j = cells.length → j < fuel → spec_RuleValid.l0 (callF PP orc k) k fuel n i kind cs value H = some (.bool false, H) := by
  have h7 := n7 hb
  have hlen := hs.len
  intro j
  induction j with
  | zero =>
    intro i fuel hi hf
    obtain ⟨fuel, rfl⟩ : ∃ q, fuel = q + 1 := ⟨fuel - 1, by omega⟩
    simp (disch := omega) only [spec_RuleValid.l0, spec_RuleValid.j2, spec_RuleValid.j4, dt, df, bt, bf, nt, nf, Bool.and_self, Bool.not_true, Bool.not_false, cond_true, cond_false, Int.toNat_natCast, Int.toNat_zero, Int.toNat_one, Option.bind_some, wr, AV.toB, AV.toI, AV.toS, if_true, l1In_ok (show 1 ≤ k by omega)]
  | succ j ih =>
    intro i fuel hi hf
    obtain ⟨fuel, rfl⟩ : ∃ q, fuel = q + 1 := ⟨fuel - 1, by omega⟩
    have h2 : i < cells.length := by omega
    have h5 := ih (i + 1) fuel (by omega) (by omega)
    push_cast at h5
    have h6 := specRule_l1 (callF PP orc k) k (spec_RuleValid.l0 (callF PP orc k) k fuel) (n := n) (kind := kind) (value := value) hs hl h2 i 0 k (by omega) (by omega)
    simp only [List.drop_zero, Int.natCast_zero, h5] at h6
    have h6' : spec_RuleValid.l1 (callF PP orc k) k (spec_RuleValid.l0 (callF PP orc k) k fuel) k n i 0 kind cs value H = some (.bool false, H) := by rw [h6]; cases (cells.take i).contains cells[i] <;> rfl
    by_cases c1 : 0 ≤ cells.getD i 0 ∧ cells.getD i 0 ≤ n * n - 1
    · simp (disch := omega) only [spec_RuleValid.l0, dt, df, bt, bf, nt, nf, Bool.and_self, Bool.not_true, Bool.not_false, cond_true, cond_false, Int.toNat_natCast, Int.toNat_zero, Int.toNat_one, Option.bind_some, wr, AV.toB, AV.toI, AV.toS, if_true, rdn hs, l1In_ok (show 1 ≤ k by omega), dt c1, h6']
    · simp (disch := omega) only [spec_RuleValid.l0, dt, df, bt, bf, nt, nf, Bool.and_self, Bool.not_true, Bool.not_false, cond_true, cond_false, Int.toNat_natCast, Int.toNat_zero, Int.toNat_one, Option.bind_some, wr, AV.toB, AV.toI, AV.toS, if_true, rdn hs, l1In_ok (show 1 ≤ k by omega), df c1]
theorem specRuleValid_any {k : Nat} (hk : 2000002 ≤ k) {n kind value : Int} {cs : Sl} {H : Hp} {cells : List Int} (hb : -1 ≤ n ∧ n ≤ 5) (hs : Reads .i64 H cs cells) (hl : cells.length ≤ 1000) :
    callF PP orc k spec_RuleValid.id [.agg [.int .i64 kind, .sl 1 cs, .int .i64 value], .int .i64 n] H = some (.bool (decide (2 ≤ n ∧ n ≤ 4) && ruleOk n kind cells value), H) := by
  by_cases hn : 2 ≤ n ∧ n ≤ 4
  · rw [specRuleValid_ok hk hn hs hl, dt hn, Bool.true_and]
  · obtain ⟨k, rfl⟩ : ∃ q, k = q + 1 := ⟨k - 1, by omega⟩
    rw [spec_RuleValid.call, df hn, Bool.false_and]
    exact specRule_l0_bad (show 2000001 ≤ k by omega) hb hn hs hl cells.length 0 k (by omega) (by omega)
theorem masks_and : ∀ n : Int, -1 ≤ n ∧ n ≤ 5 → 0 ≤ IntKind.i64.wrap ((BitVec.ofInt IntKind.i64.bits n &&& BitVec.ofInt IntKind.i64.bits 7).toNat : Int) ∧ IntKind.i64.wrap ((BitVec.ofInt IntKind.i64.bits n &&& BitVec.ofInt IntKind.i64.bits 7).toNat : Int) ≤ 7 := by
  intro n hb
  have : n = -1 ∨ n = 0 ∨ n = 1 ∨ n = 2 ∨ n = 3 ∨ n = 4 ∨ n = 5 := by omega
  rcases this with rfl | rfl | rfl | rfl | rfl | rfl | rfl <;> exact ⟨by decide +kernel, by decide +kernel⟩
theorem MasksValid_l0_bad {k : Nat} (hk : 1 ≤ k) {n : Int} (hb : -1 ≤ n ∧ n ≤ 5) (hn : ¬ (2 ≤ n ∧ n ≤ 4)) {H : Hp} {s : Sl} {l : List Int} (hs : Reads .i64 H s l) (hl : l.length ≤ 1000) :
    ∀ (j i fuel : Nat), i + j = l.length → j < fuel → spec_MasksValid.l0 (callF PP orc k) k fuel s n i H = some (.bool false, H) := by
  have h7 := n7 hb
  have hlen := hs.len
  have ha := masks_and n hb
  generalize hA : IntKind.i64.wrap ((BitVec.ofInt IntKind.i64.bits n &&& BitVec.ofInt IntKind.i64.bits 7).toNat : Int) = A at ha
  intro j
  induction j with
  | zero =>
    intro i fuel hi hf
    obtain ⟨fuel, rfl⟩ : ∃ q, fuel = q + 1 := ⟨fuel - 1, by omega⟩
    simp (disch := omega) only [spec_MasksValid.l0, spec_MasksValid.j2, dt, df, bt, bf, nt, nf, Bool.and_self, Bool.not_true, Bool.not_false, cond_true, cond_false, Int.toNat_natCast, Int.toNat_zero, Int.toNat_one, Option.bind_some, wr, AV.toB, AV.toI, AV.toS, if_true, l1In_ok hk]
  | succ j ih =>
    intro i fuel hi hf
    obtain ⟨fuel, rfl⟩ : ∃ q, fuel = q + 1 := ⟨fuel - 1, by omega⟩
    have h5 := ih (i + 1) fuel (by omega) (by omega)
    push_cast at h5
    generalize hT : IntKind.i64.wrap (IntKind.i64.wrap (1 * 2 ^ (min (A + 1).toNat IntKind.i64.bits)) - 2) = T
    by_cases c1 : 0 ≤ l.getD i 0 ∧ l.getD i 0 ≤ T
    · cases c2 : ((l.getD i 0).tmod 2 != 0) with
      | true => simp (disch := omega) only [spec_MasksValid.l0, spec_MasksValid.j1, spec_MasksValid.j3, dt, Bool.and_self, Bool.not_true, cond_true, cond_false, Int.toNat_natCast, rdn hs, Option.bind_some, hA, wr (n := A + 1), iN, hT, l1In_ok hk, AV.toB, c1, and_self, decide_true, c2]
      | false => simp (disch := omega) only [spec_MasksValid.l0, spec_MasksValid.j1, spec_MasksValid.j3, dt, Bool.and_self, Bool.not_true, cond_true, cond_false, Int.toNat_natCast, rdn hs, Option.bind_some, hA, wr (n := A + 1), wr (n := (i : Int) + 1), iN, hT, l1In_ok hk, AV.toB, c1, and_self, decide_true, c2, h5]
    · simp (disch := omega) only [spec_MasksValid.l0, spec_MasksValid.j1, spec_MasksValid.j3, dt, Bool.and_self, Bool.not_false, cond_true, cond_false, Int.toNat_natCast, rdn hs, Option.bind_some, hA, wr (n := A + 1), iN, hT, l1In_ok hk, AV.toB, c1, decide_false]
theorem specMasksValid_any {k : Nat} (hk : 2000000 ≤ k) {n : Int} (hb : -1 ≤ n ∧ n ≤ 5) {H : Hp} {s : Sl} {l : List Int} (hs : Reads .i64 H s l) (hl : l.length ≤ 1000) :
    callF PP orc k spec_MasksValid.id [.sl 1 s, .int .i64 n] H = some (.bool (masksOk n l), H) := by
  unfold masksOk
  by_cases hn : 2 ≤ n ∧ n ≤ 4
  · rw [MasksValid_ok hk hn hs hl, dt hn, Bool.true_and]
  · obtain ⟨k, rfl⟩ : ∃ q, k = q + 1 := ⟨k - 1, by omega⟩
    rw [spec_MasksValid.call, df hn, Bool.false_and]
    exact MasksValid_l0_bad (show 1 ≤ k by omega) hb hn hs hl l.length 0 k (by omega) (by omega)

/-! ### spec.RuleMasks -/
def ruleMasksS (n kind value : Int) (cells masks : List Int) : List Int := if (decide (2 ≤ n ∧ n ≤ 4) && ruleOk n kind cells value) = true ∧ masksOk n masks = true then ruleMasksV kind value (ownOf masks cells) else []
theorem flat0s (N : Nat) : (List.replicate N [AV.int .i64 0]).flatten = (List.replicate N (0 : Int)).map (.int .i64) := by
  induction N with
  | zero => rfl
  | succ N ih => simp [List.replicate_succ, ih]
theorem Ms.zeros (N : Nat) : Ms (List.replicate N 0) := fun m hm => by have := (List.mem_replicate.1 hm).2; subst this; exact ⟨by decide, by decide⟩
theorem specRuleMasks_ok {k : Nat} (hk : 2000030 ≤ k) {n kind value : Int} (hb : -1 ≤ n ∧ n ≤ 5) {cs ms : Sl} {H : Hp} {cells masks : List Int} (hc : Reads .i64 H cs cells) (hm : Reads .i64 H ms masks) (hcl : cells.length ≤ 1000) (hml : masks.length ≤ 1000) :
    ∃ t H', callF PP orc k spec_RuleMasks.id [.agg [.int .i64 kind, .sl 1 cs, .int .i64 value], .sl 1 ms, .int .i64 n] H = some (.sl 1 t, H') ∧ H <+: H' ∧ Own 1 H H' t ((ruleMasksS n kind value cells masks).map (.int .i64)) := by
  obtain ⟨k, rfl⟩ : ∃ q, k = q + 1 := ⟨k - 1, by omega⟩
  rw [spec_RuleMasks.call]
  have h1 := specRuleValid_any (show 2000002 ≤ k by omega) (kind := kind) (value := value) hb hc hcl
  have h2 := specMasksValid_any (show 2000000 ≤ k by omega) hb hm hml
  unfold ruleMasksS
  cases e1 : (decide (2 ≤ n ∧ n ≤ 4) && ruleOk n kind cells value) with
  | false =>
    rw [e1] at h1
    refine ⟨Sl.mk false H.length 0 0, H ++ [some (Blk.mk false [])], by simp only [spec_RuleMasks.f, spec_RuleMasks.j0, dt, df, bt, bf, nt, nf, Bool.and_self, Bool.not_true, Bool.not_false, cond_true, cond_false, Int.toNat_natCast, Int.toNat_zero, Int.toNat_one, Option.bind_some, wr, AV.toB, AV.toI, AV.toS, if_true, h1], (List.prefix_append _ _), ?_⟩
    rw [iN (by simp)]; exact own_new 1 H [] 0 rfl
  | true =>
    rw [e1] at h1
    cases e2 : masksOk n masks with
    | false =>
      rw [e2] at h2
      refine ⟨Sl.mk false H.length 0 0, H ++ [some (Blk.mk false [])], by simp only [spec_RuleMasks.f, spec_RuleMasks.j0, dt, df, bt, bf, nt, nf, Bool.and_self, Bool.not_true, Bool.not_false, cond_true, cond_false, Int.toNat_natCast, Int.toNat_zero, Int.toNat_one, Option.bind_some, wr, AV.toB, AV.toI, AV.toS, if_true, h1, h2], (List.prefix_append _ _), ?_⟩
      rw [iN (by simp)]; exact own_new 1 H [] 0 rfl
    | true =>
      rw [e2] at h2
      rw [ip ⟨rfl, rfl⟩]
      rw [Bool.and_eq_true, decide_eq_true_eq] at e1
      obtain ⟨c1, c2, c3, c4⟩ := ruleOk_cells e1.2
      obtain ⟨_, m1, m2⟩ := masksOk_iff.1 e2
      have hcs := hc.len
      have ra : RuleAt H cs ms kind cells masks := ⟨hc, hm, c2, fun c h => by have := c1 c h; omega, hml, c4⟩
      have hnew := own_new 1 H ((List.replicate cells.length (0 : Int)).map (.int .i64)) cells.length (by simp)
      have hnew2 := own_new 1 (H ++ [some (Blk.mk false ((List.replicate cells.length (0 : Int)).map (.int .i64)))]) (([] : List Int).map (.int .i64)) 0 rfl
      obtain ⟨H', a1, a2, a3, a4⟩ := l4Ways_ok ra (value := value) (fs := Sl.mk false H.length 0 cells.length) cells.length k (by omega) (H ++ [some (Blk.mk false ((List.replicate cells.length (0 : Int)).map (.int .i64)))] ++ [some (Blk.mk false [])]) (Sl.mk false (H ++ [some (Blk.mk false ((List.replicate cells.length (0 : Int)).map (.int .i64)))]).length 0 0) [] (List.replicate cells.length 0)
        (by simp) ((List.prefix_append _ _).trans (List.prefix_append _ _)) (own_reads hnew2) (by simp) ⟨by simp, fun v hv => by cases hv⟩ (by simp) (Ms.zeros _) (own_pf hnew (List.prefix_append _ _))
      refine ⟨Sl.mk false H.length 0 cells.length, H', ?_, a2, ?_⟩
      · simp only [spec_RuleMasks.f, spec_RuleMasks.j0, spec_RuleMasks.j1, dt, df, bt, bf, nt, nf, Bool.and_self, Bool.not_true, Bool.not_false, cond_true, cond_false, Int.toNat_natCast, Int.toNat_zero, Int.toNat_one, Option.bind_some, wr, AV.toB, AV.toI, AV.toS, if_true, h1, h2, hcs, flat0s]
        rw [ip (by omega), a1]
        rfl
      · unfold ruleMasksV
        simpa [ownOf] using a4

/-! ### spec.RulePossible -/
theorem openOf_ok {n : Int} {g : List Int} (hg : gridOk g n = true) : masksOk n (openOf n g) = true := by
  obtain ⟨hn, h2, h3⟩ := (gridOk_iff g n).1 hg
  refine masksOk_iff.2 ⟨hn, fun m hm => ?_, by unfold openOf; rw [List.length_map]; exact h2⟩
  obtain ⟨v, hv, rfl⟩ := List.mem_map.1 hm
  have hv' := h3 v hv
  have : n = 2 ∨ n = 3 ∨ n = 4 := by omega
  split
  · have hv4 : v = 1 ∨ v = 2 ∨ v = 3 ∨ v = 4 := by omega
    rcases this with rfl | rfl | rfl <;> rcases hv4 with rfl | rfl | rfl | rfl <;> first | omega | decide
  · rcases this with rfl | rfl | rfl <;> decide
theorem RulePossible_l2 (rec : Rec) (k : Nat) (J4 : Sl → Hp → An) {n kind value : Int} (hn : 2 ≤ n ∧ n ≤ 4) {cs xs : Sl} {H0 : Hp} {g : List Int} (hg : gridOk g n = true) (hs : Reads .i64 H0 xs g)
    (hJ : ∀ t H, spec_RulePossible.j4 rec k n t kind cs value H = J4 t H) :
    ∀ (j i fuel : Nat) (H : Hp) (t : Sl), i + j = g.length → j < fuel → H0 <+: H → Own 1 H0 H t ((openOf n (g.take i)).map (.int .i64)) →
      ∃ t' H', spec_RulePossible.l2 rec k fuel xs n t i kind cs value H = J4 t' H' ∧ H0 <+: H' ∧ Own 1 H0 H' t' ((openOf n g).map (.int .i64)) := by
  have hlen := hs.len
  obtain ⟨_, h2, h3⟩ := (gridOk_iff g n).1 hg
  have hgl := gridOk_len hg
  obtain ⟨p1, p2, p3⟩ := topMask_pw hn
  intro j
  induction j with
  | zero =>
    intro i fuel H t hi hf hp ho
    obtain ⟨fuel, rfl⟩ : ∃ q, fuel = q + 1 := ⟨fuel - 1, by omega⟩
    refine ⟨t, H, ?_, hp, by rw [List.take_of_length_le (by omega)] at ho; exact ho⟩
    simp (disch := omega) only [spec_RulePossible.l2, dt, df, bt, bf, nt, nf, Bool.and_self, Bool.not_true, Bool.not_false, cond_true, cond_false, Int.toNat_natCast, Int.toNat_zero, Int.toNat_one, Option.bind_some, wr, AV.toB, AV.toI, AV.toS, if_true, hJ]
  | succ j ih =>
    intro i fuel H t hi hf hp ho
    obtain ⟨fuel, rfl⟩ : ∃ q, fuel = q + 1 := ⟨fuel - 1, by omega⟩
    have hi2 : i < g.length := by omega
    obtain ⟨v0, v1⟩ := h3 _ (mem_getD hi2)
    have htl : t.len = i := by have := ho.len; simp [openOf] at this; omega
    have htk : openOf n (g.take (i + 1)) = openOf n (g.take i) ++ [if g.getD i 0 > 0 then pw (g.getD i 0) else topMask n] := by
      rw [List.take_succ_eq_append_getElem hi2]; unfold openOf
      rw [List.map_append, List.getD_eq_getElem?_getD, List.getElem?_eq_getElem hi2]; rfl
    obtain ⟨H1, a1, a2, a3, a4, a5⟩ := own_app1 ho hp (if g.getD i 0 > 0 then pw (g.getD i 0) else topMask n) (by omega)
    rw [← htk] at a3
    obtain ⟨t', H', b1, b2, b3⟩ := ih (i + 1) fuel H1 _ (by omega) (by omega) a2 a3
    push_cast at b1
    refine ⟨t', H', ?_, b2, b3⟩
    by_cases c : g.getD i 0 > 0
    · rw [ip c] at a1
      simp (disch := omega) only [spec_RulePossible.l2, spec_RulePossible.j3, spec_RulePossible.j5, dt, df, bt, bf, nt, nf, Bool.and_self, Bool.not_true, Bool.not_false, cond_true, cond_false, Int.toNat_natCast, Int.toNat_zero, Int.toNat_one, Option.bind_some, wr, AV.toB, AV.toI, AV.toS, if_true, rdn (pf_reads hp hs), iN, m_shl v0, a1, b1]
    · rw [iN c] at a1
      simp (disch := omega) only [spec_RulePossible.l2, spec_RulePossible.j3, spec_RulePossible.j5, dt, df, bt, bf, nt, nf, Bool.and_self, Bool.not_true, Bool.not_false, cond_true, cond_false, Int.toNat_natCast, Int.toNat_zero, Int.toNat_one, Option.bind_some, wr, AV.toB, AV.toI, AV.toS, if_true, rdn (pf_reads hp hs), iN, m_shl (v := n + 1), p1, a1, b1]
theorem specRulePossible_ok {k : Nat} (hk : 2000040 ≤ k) {n kind value : Int} {cs xs : Sl} {H : Hp} {cells g : List Int} (hc : Reads .i64 H cs cells) (hx : Reads .i64 H xs g) (hr : ruleOk n kind cells value = true) (hg : gridOk g n = true) :
    ∃ H', callF PP orc k spec_RulePossible.id [.agg [.int .i64 kind, .sl 1 cs, .int .i64 value], .sl 1 xs, .int .i64 n] H = some (.bool (canHoldV n g (kind, cells, value)), H') ∧ H <+: H' := by
  obtain ⟨k, rfl⟩ : ∃ q, k = q + 1 := ⟨k - 1, by omega⟩
  rw [spec_RulePossible.call]
  obtain ⟨hn, g2, g3⟩ := (gridOk_iff g n).1 hg
  have hgl := gridOk_len hg
  obtain ⟨c1, c2, c3, c4⟩ := ruleOk_cells hr
  have h1 := specRuleValid_any (show 2000002 ≤ k by omega) (kind := kind) (value := value) (n := n) ⟨by omega, by omega⟩ hc (by omega)
  have h2 := specGridValid_ok (show 2000000 ≤ k by omega) hx (by omega) n
  rw [hr, dt hn] at h1
  rw [hg] at h2
  obtain ⟨t, H1, a1, a2, a3⟩ := RulePossible_l2 (callF PP orc k) k (fun t H => spec_RulePossible.j4 (callF PP orc k) k n t kind cs value H) hn hg hx (fun _ _ => rfl) g.length 0 k (H ++ [some (Blk.mk false [])]) (Sl.mk false H.length 0 0) (by omega) (by omega) (List.prefix_append _ _) (own_new 1 H [] 0 rfl)
  obtain ⟨u, H2, b1, b2, b3⟩ := specRuleMasks_ok (show 2000030 ≤ k by omega) (n := n) (kind := kind) (value := value) ⟨by omega, by omega⟩ (pf_reads a2 hc) (own_reads a3) (by omega) (by simp [openOf]; omega)
  have e : ruleMasksS n kind value cells (openOf n g) = ruleMasksV kind value (ownOf (openOf n g) cells) := by
    unfold ruleMasksS; rw [ip ⟨by rw [hr, dt hn]; rfl, openOf_ok hg⟩]
  rw [e] at b3
  refine ⟨H2, ?_, a2.trans b2⟩
  have hl : (ruleMasksV kind value (ownOf (openOf n g) cells)).length = cells.length := by
    unfold ruleMasksV
    rw [(ways_ok _ _ [] _ ⟨by simp, fun v hv => by cases hv⟩ (by simp [ownOf]; omega) (Ms.zeros _)).2]
    simp [ownOf]
  have hul := (own_reads b3).len
  have hd : (ruleMasksV kind value (ownOf (openOf n g) cells)).getD 0 0 = (ruleMasksV kind value (ownOf (openOf n g) cells)).headD 0 := by
    cases ruleMasksV kind value (ownOf (openOf n g) cells) <;> rfl
  simp only [Int.natCast_zero] at a1
  simp (disch := omega) only [spec_RulePossible.f, spec_RulePossible.j0, spec_RulePossible.j1, dt, df, bt, bf, nt, nf, Bool.and_self, Bool.not_true, Bool.not_false, cond_true, cond_false, Int.toNat_natCast, Int.toNat_zero, Int.toNat_one, Option.bind_some, wr, AV.toB, AV.toI, AV.toS, if_true, h1, h2, a1, spec_RulePossible.j4, b1, rdn (own_reads b3), hd]
  rfl
end Go.Proofs.Ytjikkamhljbipaa.Rp
/- What fits a puzzle; its solutions: the model's side of the program. No conditions. -/
set_option linter.unusedVariables false
set_option linter.unusedSimpArgs false
namespace Go.Proofs.Ytjikkamhljbipaa.Rp
open Go Go.RowKit Go.Proofs.Ytjikkamhljbipaa.Ab

/-- A puzzle in memory. -/
structure PuzAt (H : Hp) (n : Int) (gs s : Sl) (given : List Int) (rs : List R) : Prop where
  rg : Reads .i64 H gs given
  rr : ReadsR H s rs
  n4 : 2 ≤ n ∧ n ≤ 4
  gl : given.length ≤ 1000
  rl : rs.length ≤ 1000
  rc : ∀ r ∈ rs, r.cells.length ≤ 1000
theorem PuzAt.pf {H H' : Hp} {n : Int} {gs s : Sl} {given : List Int} {rs : List R} (h : PuzAt H n gs s given rs) (g : H <+: H') : PuzAt H' n gs s given rs := ⟨pf_reads g h.rg, pf_readsR g h.rr, h.n4, h.gl, h.rl, h.rc⟩
theorem puzzle_map (n : Int) (g : List Int) (rs : List R) : puzzleOk n g rs = puzzleV n g (rs.map R.val) := by
  unfold puzzleOk puzzleV
  rw [List.length_map, List.all_map]; rfl
theorem rules_at1 {H : Hp} {s : Sl} {rs : List R} (h : ReadsR H s rs) (i : Nat) (hi : i < rs.length) :
    ldI .i64 H s.blk (s.off + i * 3) = some rs[i].kind ∧ ldS 1 H s.blk (s.off + i * 3 + 1) = some rs[i].sl ∧ ldI .i64 H s.blk (s.off + i * 3 + 1 + 1) = some rs[i].value := rules_at h i hi

theorem l5Fits_l4 {k : Nat} (hk : 2000040 ≤ k) {H0 : Hp} {n : Int} {gs s xs : Sl} {given g : List Int} {rs : List R} (hz : PuzAt H0 n gs s given rs) (hro : ∀ r ∈ rs, R.ok n r = true) (hx : Reads .i64 H0 xs g) (hg : gridOk g n = true) :
    ∀ (j i fuel : Nat) (H : Hp), i + j = rs.length → j < fuel → H0 <+: H → ∃ H', spec_l5Fits.l4 (callF PP orc k) k fuel xs i n gs s H = some (.bool (((rs.drop i).map R.val).all (canHoldV n g) && !clash g n), H') ∧ H0 <+: H' := by
  have hlen := hz.rr.len
  have hrl := hz.rl
  intro j
  induction j with
  | zero =>
    intro i fuel H hi hf hp
    obtain ⟨fuel, rfl⟩ : ∃ q, fuel = q + 1 := ⟨fuel - 1, by omega⟩
    obtain ⟨H1, a1, a2⟩ := specl2Clash_ok (show 2000001 ≤ k by omega) (pf_reads hp hx) hg
    refine ⟨H1, ?_, hp.trans a2⟩
    rw [List.drop_eq_nil_of_le (by omega), List.map_nil, List.all_nil, Bool.true_and]
    simp (disch := omega) only [spec_l5Fits.l4, spec_l5Fits.j5, dt, df, bt, bf, nt, nf, Bool.and_self, Bool.not_true, Bool.not_false, cond_true, cond_false, Int.toNat_natCast, Int.toNat_zero, Int.toNat_one, Option.bind_some, wr, AV.toB, AV.toI, AV.toS, if_true, a1]
  | succ j ih =>
    intro i fuel H hi hf hp
    obtain ⟨fuel, rfl⟩ : ∃ q, fuel = q + 1 := ⟨fuel - 1, by omega⟩
    have hi2 : i < rs.length := by omega
    obtain ⟨l0, l1, l2⟩ := rules_at1 (pf_readsR hp hz.rr) i hi2
    obtain ⟨H1, a1, a2⟩ := specRulePossible_ok hk (pf_reads hp (hz.rr.cs i hi2)) (pf_reads hp hx) (hro _ (List.getElem_mem hi2)) hg
    obtain ⟨H', b1, b2⟩ := ih (i + 1) fuel H1 (by omega) (by omega) (hp.trans a2)
    push_cast at b1
    rw [List.drop_eq_getElem_cons hi2, List.map_cons, List.all_cons]
    have e : canHoldV n g rs[i].val = canHoldV n g (rs[i].kind, rs[i].cells, rs[i].value) := rfl
    rw [e]
    cases c : canHoldV n g (rs[i].kind, rs[i].cells, rs[i].value) with
    | true =>
      rw [c] at a1
      refine ⟨H', ?_, b2⟩
      simp (disch := omega) only [spec_l5Fits.l4, dt, df, bt, bf, nt, nf, Bool.and_self, Bool.not_true, Bool.not_false, cond_true, cond_false, Int.toNat_natCast, Int.toNat_zero, Int.toNat_one, Option.bind_some, wr, AV.toB, AV.toI, AV.toS, if_true, l0, l1, l2, a1, b1, Bool.true_and]
    | false =>
      rw [c] at a1
      refine ⟨H1, ?_, hp.trans a2⟩
      simp (disch := omega) only [spec_l5Fits.l4, dt, df, bt, bf, nt, nf, Bool.and_self, Bool.not_true, Bool.not_false, cond_true, cond_false, Int.toNat_natCast, Int.toNat_zero, Int.toNat_one, Option.bind_some, wr, AV.toB, AV.toI, AV.toS, if_true, l0, l1, l2, a1, Bool.false_and]
theorem l5Fits_l0 {k : Nat} (hk : 2000040 ≤ k) {H : Hp} {n : Int} {gs s xs : Sl} {given g : List Int} {rs : List R} (hz : PuzAt H n gs s given rs) (hro : ∀ r ∈ rs, R.ok n r = true) (hx : Reads .i64 H xs g) (hg : gridOk g n = true) (hl : given.length = g.length) :
    ∀ (j i fuel : Nat), i + j = g.length → j < fuel → ∃ H', spec_l5Fits.l0 (callF PP orc k) k fuel xs i n gs s H = some (.bool (compatFrom given g i j && ((rs.map R.val).all (canHoldV n g) && !clash g n)), H') ∧ H <+: H' := by
  have hgl := hz.rg.len
  have hxl := hx.len
  have h16 := gridOk_len hg
  intro j
  induction j with
  | zero =>
    intro i fuel hi hf
    obtain ⟨fuel, rfl⟩ : ∃ q, fuel = q + 1 := ⟨fuel - 1, by omega⟩
    obtain ⟨H1, a1, a2⟩ := l5Fits_l4 hk hz hro hx hg rs.length 0 k H (by omega) (by have := hz.rl; omega) (List.prefix_refl _)
    simp only [Int.natCast_zero, List.drop_zero] at a1
    refine ⟨H1, ?_, a2⟩
    simp (disch := omega) only [spec_l5Fits.l0, spec_l5Fits.j2, dt, df, bt, bf, nt, nf, Bool.and_self, Bool.not_true, Bool.not_false, cond_true, cond_false, Int.toNat_natCast, Int.toNat_zero, Int.toNat_one, Option.bind_some, wr, AV.toB, AV.toI, AV.toS, if_true, a1, compatFrom, Bool.true_and]
  | succ j ih =>
    intro i fuel hi hf
    obtain ⟨fuel, rfl⟩ : ∃ q, fuel = q + 1 := ⟨fuel - 1, by omega⟩
    obtain ⟨H', b1, b2⟩ := ih (i + 1) fuel (by omega) (by omega)
    push_cast at b1
    rw [compatFrom]
    by_cases c1 : given.getD i 0 > 0
    · by_cases c2 : g.getD i 0 > 0
      · by_cases c3 : g.getD i 0 = given.getD i 0
        · refine ⟨H', ?_, b2⟩
          simp (disch := omega) only [spec_l5Fits.l0, spec_l5Fits.j1, spec_l5Fits.j3, dt, df, bt, bf, nt, nf, Bool.and_self, Bool.not_true, Bool.not_false, cond_true, cond_false, Int.toNat_natCast, Int.toNat_zero, Int.toNat_one, Option.bind_some, wr, AV.toB, AV.toI, AV.toS, if_true, rdn hz.rg, rdn hx, b1, Bool.and_false, Bool.true_and]
        · refine ⟨H, ?_, (List.prefix_refl _)⟩
          simp (disch := omega) only [spec_l5Fits.l0, spec_l5Fits.j1, spec_l5Fits.j3, dt, df, bt, bf, nt, nf, Bool.and_self, Bool.not_true, Bool.not_false, cond_true, cond_false, Int.toNat_natCast, Int.toNat_zero, Int.toNat_one, Option.bind_some, wr, AV.toB, AV.toI, AV.toS, if_true, rdn hz.rg, rdn hx, Bool.and_true, Bool.false_and]
      · refine ⟨H', ?_, b2⟩
        simp (disch := omega) only [spec_l5Fits.l0, spec_l5Fits.j1, spec_l5Fits.j3, dt, df, bt, bf, nt, nf, Bool.and_self, Bool.not_true, Bool.not_false, cond_true, cond_false, Int.toNat_natCast, Int.toNat_zero, Int.toNat_one, Option.bind_some, wr, AV.toB, AV.toI, AV.toS, if_true, rdn hz.rg, rdn hx, b1, Bool.and_false, Bool.false_and, Bool.true_and]
    · refine ⟨H', ?_, b2⟩
      simp (disch := omega) only [spec_l5Fits.l0, spec_l5Fits.j1, spec_l5Fits.j3, dt, df, bt, bf, nt, nf, Bool.and_self, Bool.not_true, Bool.not_false, cond_true, cond_false, Int.toNat_natCast, Int.toNat_zero, Int.toNat_one, Option.bind_some, wr, AV.toB, AV.toI, AV.toS, if_true, rdn hz.rg, rdn hx, b1, Bool.false_and, Bool.true_and]
theorem specl5Fits_ok {k : Nat} (hk : 2000041 ≤ k) {H : Hp} {n : Int} {gs s xs : Sl} {given g : List Int} {rs : List R} (hz : PuzAt H n gs s given rs) (hro : ∀ r ∈ rs, R.ok n r = true) (hx : Reads .i64 H xs g) (hg : gridOk g n = true) (hl : given.length = g.length) :
    ∃ H', callF PP orc k spec_l5Fits.id [.agg [.int .i64 n, .sl 1 gs, .sl 3 s], .sl 1 xs] H = some (.bool (fitsV n given (rs.map R.val) g), H') ∧ H <+: H' := by
  obtain ⟨k, rfl⟩ : ∃ q, k = q + 1 := ⟨k - 1, by omega⟩
  rw [spec_l5Fits.call]
  have h16 := gridOk_len hg
  exact l5Fits_l0 (show 2000040 ≤ k by omega) hz hro hx hg hl g.length 0 k (by omega) (by omega)
theorem puzzleV_iff {n : Int} {given : List Int} {rs : List R} (h : puzzleV n given (rs.map R.val) = true) : gridOk given n = true ∧ rs.length ≤ 20 ∧ ∀ r ∈ rs, R.ok n r = true := by
  unfold puzzleV at h
  simp only [Bool.and_eq_true, decide_eq_true_eq, List.length_map, List.all_map, List.all_eq_true] at h
  exact ⟨h.1, h.2.1, h.2.2⟩
theorem grid_len_eq {n : Int} {a b : List Int} (ha : gridOk a n = true) (hb : gridOk b n = true) : a.length = b.length := by
  have := ((gridOk_iff a n).1 ha).2.1
  have := ((gridOk_iff b n).1 hb).2.1
  omega
theorem specPuzzleFits_ok {k : Nat} (hk : 2000042 ≤ k) {H : Hp} {n : Int} {gs s xs : Sl} {given g : List Int} {rs : List R} (hz : PuzAt H n gs s given rs) (hx : Reads .i64 H xs g) (hl : g.length ≤ 1000) :
    ∃ H', callF PP orc k spec_PuzzleFits.id [.agg [.int .i64 n, .sl 1 gs, .sl 3 s], .sl 1 xs] H = some (.bool (puzzleFitsV n given (rs.map R.val) g), H') ∧ H <+: H' := by
  obtain ⟨k, rfl⟩ : ∃ q, k = q + 1 := ⟨k - 1, by omega⟩
  rw [spec_PuzzleFits.call]
  have h1 := specPuzzleValid_ok (show 2000003 ≤ k by omega) hz.n4 hz.rg hz.gl hz.rr hz.rl hz.rc
  have h2 := specGridValid_ok (show 2000000 ≤ k by omega) hx (by omega) n
  rw [puzzle_map] at h1
  unfold puzzleFitsV
  cases c1 : puzzleV n given (rs.map R.val) with
  | false =>
    rw [c1] at h1
    exact ⟨H, by simp only [spec_PuzzleFits.f, dt, df, bt, bf, nt, nf, Bool.and_self, Bool.not_true, Bool.not_false, cond_true, cond_false, Int.toNat_natCast, Int.toNat_zero, Int.toNat_one, Option.bind_some, wr, AV.toB, AV.toI, AV.toS, if_true, h1, Bool.false_and], (List.prefix_refl _)⟩
  | true =>
    rw [c1] at h1
    cases c2 : gridOk g n with
    | false =>
      rw [c2] at h2
      exact ⟨H, by simp only [spec_PuzzleFits.f, dt, df, bt, bf, nt, nf, Bool.and_self, Bool.not_true, Bool.not_false, cond_true, cond_false, Int.toNat_natCast, Int.toNat_zero, Int.toNat_one, Option.bind_some, wr, AV.toB, AV.toI, AV.toS, if_true, h1, h2, Bool.false_and, Bool.true_and], (List.prefix_refl _)⟩
    | true =>
      rw [c2] at h2
      obtain ⟨p1, p2, p3⟩ := puzzleV_iff c1
      obtain ⟨H1, a1, a2⟩ := specl5Fits_ok (show 2000041 ≤ k by omega) hz p3 hx c2 (grid_len_eq p1 c2)
      exact ⟨H1, by simp only [spec_PuzzleFits.f, dt, df, bt, bf, nt, nf, Bool.and_self, Bool.not_true, Bool.not_false, cond_true, cond_false, Int.toNat_natCast, Int.toNat_zero, Int.toNat_one, Option.bind_some, wr, AV.toB, AV.toI, AV.toS, if_true, h1, h2, a1, Bool.true_and], a2⟩
theorem specPuzzleSolved_ok {k : Nat} (hk : 2000043 ≤ k) {H : Hp} {n : Int} {gs s xs : Sl} {given g : List Int} {rs : List R} (hz : PuzAt H n gs s given rs) (hx : Reads .i64 H xs g) (hl : g.length ≤ 1000) :
    ∃ H', callF PP orc k spec_PuzzleSolved.id [.agg [.int .i64 n, .sl 1 gs, .sl 3 s], .sl 1 xs] H = some (.bool (puzzleSolvedV n given (rs.map R.val) g), H') ∧ H <+: H' := by
  obtain ⟨k, rfl⟩ : ∃ q, k = q + 1 := ⟨k - 1, by omega⟩
  rw [spec_PuzzleSolved.call]
  obtain ⟨H1, a1, a2⟩ := specPuzzleFits_ok (show 2000042 ≤ k by omega) hz hx hl
  have hxl := hx.len
  unfold puzzleSolvedV
  cases c1 : puzzleFitsV n given (rs.map R.val) g with
  | false =>
    rw [c1] at a1
    exact ⟨H1, by simp only [spec_PuzzleSolved.f, dt, df, bt, bf, nt, nf, Bool.and_self, Bool.not_true, Bool.not_false, cond_true, cond_false, Int.toNat_natCast, Int.toNat_zero, Int.toNat_one, Option.bind_some, wr, AV.toB, AV.toI, AV.toS, if_true, a1, Bool.false_and], a2⟩
  | true =>
    rw [c1] at a1
    have hg : gridOk g n = true := by
      unfold puzzleFitsV at c1
      simp only [Bool.and_eq_true] at c1; exact c1.2.1
    have h2 := specGridFilled_ok (show 2000001 ≤ k by omega) (pf_reads a2 hx) (by omega) n
    rw [hg, ip rfl] at h2
    refine ⟨H1, ?_, a2⟩
    have e : (((filled g : Nat) : Int) == (g.length : Int)) = decide (filled g = g.length) := by rw [Bool.eq_iff_iff]; simp; omega
    simp only [spec_PuzzleSolved.f, dt, df, bt, bf, nt, nf, Bool.and_self, Bool.not_true, Bool.not_false, cond_true, cond_false, Int.toNat_natCast, Int.toNat_zero, Int.toNat_one, Option.bind_some, wr, AV.toB, AV.toI, AV.toS, if_true, a1, h2, hxl, e, Bool.true_and]

/-! ### The search -/
/-- Lists that were collected: a cell b that holds a slice of slices. -/
structure Outs (B : Hp) (b : Nat) (H : Hp) (s : Sl) (ls : List (List Int)) : Prop where
  cell : H[b]? = some (some ⟨false, [.sl 1 s]⟩)
  bB : B.length ≤ b
  bs : s.blk ≠ b
  ex : ∃ ss : List Sl, Own 1 B H s (ss.map (.sl 1)) ∧ ss.length = ls.length ∧ ∀ i, (h : i < ss.length) → (h' : i < ls.length) → Own 1 B H ss[i] (ls[i].map (.int .i64)) ∧ ss[i].blk ≠ b ∧ ss[i].blk ≠ s.blk ∧ ss[i].blk < H.length ∧ B.length ≤ ss[i].blk
/-- From one heap to a later one, apart from two blocks. -/
structure Adv2 (b c : Nat) (H H' : Hp) : Prop where
  but : ∀ (d : Nat) (x : Option Blk), d ≠ b → d ≠ c → H[d]? = some x → H'[d]? = some x
  le : H.length ≤ H'.length
theorem Adv2.refl (b c : Nat) (H : Hp) : Adv2 b c H H := ⟨fun _ _ _ _ h => h, Nat.le_refl _⟩
theorem Adv2.cell {b c : Nat} {H H' : Hp} (h : Adv2 b c H H') {d o : Nat} (h1 : d ≠ b) (h2 : d ≠ c) {v : AV} (hv : H.cell d o = some v) : H'.cell d o = some v := by
  unfold Hp.cell at hv ⊢
  split at hv
  · rename_i x hx; rw [h.but d _ h1 h2 hx]; exact hv
  · simp at hv
theorem Adv2.reads {b c : Nat} {H H' : Hp} (h : Adv2 b c H H') {k : IntKind} {s : Sl} {l : List Int} (h1 : s.blk ≠ b) (h2 : s.blk ≠ c) (hr : Reads k H s l) : Reads k H' s l := ⟨hr.len, fun i hi => h.cell h1 h2 (hr.cell i hi)⟩
theorem Adv2.own {b c : Nat} {H H' B : Hp} (h : Adv2 b c H H') {sz : Nat} {s : Sl} {x : List AV} (h1 : s.blk ≠ b) (h2 : s.blk ≠ c) (hr : Own sz B H s x) : Own sz B H' s x := ⟨hr.nn, hr.off, hr.blk, h.but _ _ h1 h2 hr.get, hr.len⟩
theorem Adv2.pf {b c : Nat} {H H' B : Hp} (h : Adv2 b c H H') (hb : B.length ≤ b) (hc : B.length ≤ c) (g : B <+: H) : B <+: H' := by
  have hl0 := g.length_le
  have hle := h.le
  rw [List.prefix_iff_eq_take]
  apply List.ext_getElem?
  intro i
  by_cases hi : i < B.length
  · rw [List.getElem?_take, if_pos hi]
    have e := List.getElem?_eq_getElem hi
    rw [e, h.but i _ (by omega) (by omega) (pf_get g e)]
  · rw [List.getElem?_eq_none (by omega), List.getElem?_eq_none (by simp; omega)]
theorem Adv2.trans {b c c' : Nat} {H H1 H2 : Hp} (h : Adv2 b c H H1) (h' : Adv2 b c' H1 H2) (hc : c' = c ∨ H.length ≤ c') : Adv2 b c H H2 :=
  ⟨fun d x h1 h2 hx => by
    have hd := (List.getElem?_eq_some_iff.1 hx).1
    exact h'.but d x h1 (by omega) (h.but d x h1 h2 hx), Nat.le_trans h.le h'.le⟩
theorem pf_adv2 {b c : Nat} {H H' : Hp} (g : H <+: H') : Adv2 b c H H' := ⟨fun d x _ _ hx => pf_get g hx, g.length_le⟩
theorem Outs.pf {B H H' : Hp} {b : Nat} {s : Sl} {ls : List (List Int)} (h : Outs B b H s ls) (g : H <+: H') : Outs B b H' s ls := by
  obtain ⟨ss, h1, h2, h3⟩ := h.ex
  exact ⟨pf_get g h.cell, h.bB, h.bs, ss, own_pf h1 g, h2, fun i hi hi' => by
    obtain ⟨a, b, c, d, e⟩ := h3 i hi hi'
    exact ⟨own_pf a g, b, c, Nat.lt_of_lt_of_le d g.length_le, e⟩⟩
theorem Outs.len {B H : Hp} {b : Nat} {s : Sl} {ls : List (List Int)} (h : Outs B b H s ls) : s.len = ls.length := by
  obtain ⟨ss, h1, h2, h3⟩ := h.ex
  have := h1.len
  simp at this; omega
/-- A list is put behind those that were collected. -/
theorem outs_app {B H : Hp} {b : Nat} {s : Sl} {ls : List (List Int)} (h : Outs B b H s ls) (hB : B <+: H) (hl : ls.length ≤ 100000) {t : Sl} {g : List Int} (ht : Own 1 B H t (g.map (.int .i64))) (t1 : t.blk ≠ b) (t2 : t.blk ≠ s.blk) (t3 : t.blk < H.length) (t4 : B.length ≤ t.blk) :
    ∃ H1 H2, H.app 1 s 1 [.sl 1 t] = some (Sl.mk false H.length 0 (ls.length + 1), H1) ∧ H1.sto b 0 [.sl 1 (Sl.mk false H.length 0 (ls.length + 1))] = some H2 ∧ Outs B b H2 (Sl.mk false H.length 0 (ls.length + 1)) (ls ++ [g]) ∧ Adv2 b s.blk H H2 ∧ B <+: H2 := by
  obtain ⟨ss, h1, h2, h3⟩ := h.ex
  have hsl := h.len
  obtain ⟨H1, a1, a2, a3, a4, a5⟩ := own_app h1 hB 1 [.sl 1 t] (by omega) (by omega) (by omega) (by omega) rfl
  rw [hsl] at a1 a3
  have hb1 := a4 b _ (Ne.symm h.bs) h.cell
  obtain ⟨H2, c1, c2, c3, c4⟩ := sto1' hb1 (.sl 1 (Sl.mk false H.length 0 (ls.length + 1)))
  have hbl := (List.getElem?_eq_some_iff.1 h.cell).1
  have adv : Adv2 b s.blk H H2 := ⟨fun d x d1 d2 hx => c3 d x d1 (a4 d x d2 hx), by omega⟩
  refine ⟨H1, H2, a1, c1, ⟨c2, h.bB, by simp only; omega, ss ++ [t], ?_, by simp [h2], fun i hi hi' => ?_⟩, adv, adv.pf h.bB h1.blk hB⟩
  · have := c3.own (by simp only; omega) a3
    simpa using this
  · by_cases e : i < ss.length
    · obtain ⟨q1, q2, q3, q4, q5⟩ := h3 i e (by omega)
      rw [List.getElem_append_left e, List.getElem_append_left (by omega)]
      exact ⟨adv.own q2 q3 q1, q2, by simp only; omega, by omega, q5⟩
    · have ei : i = ss.length := by simp at hi; omega
      subst ei
      have e1 : (ss ++ [t])[ss.length] = t := by simp
      have e2 : (ls ++ [g])[ss.length] = g := by simp [h2]
      rw [e1, e2]
      exact ⟨adv.own t1 t2 ht, t1, by simp only; omega, by omega, t4⟩
end Go.Proofs.Ytjikkamhljbipaa.Rp
/- Rules: what holds, the masks of a rule (a closure that calls itself): the program's own side. No conditions. -/
set_option linter.unusedVariables false
set_option linter.unusedSimpArgs false
namespace Go.Proofs.Ytjikkamhljbipaa.Rp
open Go Go.RowKit Go.Proofs.Ytjikkamhljbipaa.Ab

theorem allValues_ok {k : Nat} (hk : 1 ≤ k) {n : Int} (hn : 2 ≤ n ∧ n ≤ 4) (H : Hp) : callF PP orc k impl_allValues.id [.int .i64 n] H = some (.int .i64 (topMask n), H) := by
  obtain ⟨k, rfl⟩ : ∃ q, k = q + 1 := ⟨k - 1, by omega⟩
  rw [impl_allValues.call]
  obtain ⟨p1, p2, p3⟩ := topMask_pw hn
  simp (disch := omega) only [impl_allValues.f, iN, m_shl (v := n + 1), p1, wr]

/-! ### impl.valuesHold -/
def KindLen (kind : Int) (m : Nat) : Prop := (kind = 1 ∨ kind = 2 ∨ kind = 3) ∨ ((kind = 4 ∨ kind = 5) ∧ 2 ≤ m)
theorem implHold_l0 {k : Nat} (hk : 2000001 ≤ k) {kind value : Int} {cs vs : Sl} {H : Hp} {vals : List Int} (hs : Reads .i64 H vs vals) (hl : Vals vals) (h2 : KindLen kind vals.length) :
    ∀ (j i fuel : Nat) (x5 x6 : Int), i + j = vals.length → j < fuel → 0 ≤ x5 → x5 ≤ 4 * i → 0 ≤ x6 → x6 ≤ 4 ^ i →
      impl_valuesHold.l0 (callF PP orc k) k fuel vs x5 x6 vs vals.length i kind cs value H = some (.bool (if kind = 1 then distFrom vals i j else if kind = 2 then decide ((vals.drop i).foldl (· + ·) x5 = value) else if kind = 3 then decide ((vals.drop i).foldl (· * ·) x6 = value)
        else if kind = 4 then decide (vals.getD 0 0 < vals.getD 1 0) else decide (mx (vals.getD 0 0 - vals.getD 1 0) (vals.getD 1 0 - vals.getD 0 0) = value)), H) := by
  have hv := hs.len
  have hl4 := hl.1
  have eqd : ∀ a b : Int, (a == b) = decide (a = b) := fun a b => by rw [Bool.eq_iff_iff]; simp
  unfold KindLen at h2
  intro j
  induction j with
  | zero =>
    intro i fuel x5 x6 hi hf h50 h51 h60 h61
    obtain ⟨fuel, rfl⟩ : ∃ q, fuel = q + 1 := ⟨fuel - 1, by omega⟩
    rw [show vals.drop i = [] from List.drop_eq_nil_of_le (by omega)]
    simp (disch := omega) only [impl_valuesHold.l0, impl_valuesHold.j2, df, cond_false, distFrom, List.foldl_nil, eqd]
    by_cases k1 : kind = 1
    · subst k1; rfl
    by_cases k2 : kind = 2
    · subst k2; rfl
    by_cases k3 : kind = 3
    · subst k3; rfl
    have hlen : 2 ≤ vals.length := by omega
    have a0 := hl.at 0
    have a1 := hl.at 1
    by_cases k4 : kind = 4
    · simp (disch := omega) only [k2, k3, k4, if_false, dt, df, Bool.and_self, cond_true, cond_false, rdn hs, Option.bind_some, wr, Int.toNat_zero, Int.toNat_one]
      rfl
    · have k5 : kind = 5 := by omega
      subst k5
      simp (disch := omega) only [if_false, dt, df, Bool.and_self, cond_true, cond_false, rdn hs, Option.bind_some, wr, Int.toNat_zero, Int.toNat_one]
      rfl
  | succ j ih =>
    intro i fuel x5 x6 hi hf h50 h51 h60 h61
    obtain ⟨fuel, rfl⟩ : ∃ q, fuel = q + 1 := ⟨fuel - 1, by omega⟩
    have h3 : i < vals.length := by omega
    obtain ⟨a0, a1⟩ := hl.at i
    have hd : (vals.drop i) = vals.getD i 0 :: vals.drop (i + 1) := by
      rw [List.drop_eq_getElem_cons h3, List.getD_eq_getElem?_getD, List.getElem?_eq_getElem h3]; rfl
    have hp : (4 : Int) ^ i ≤ 64 := by
      have : i = 0 ∨ i = 1 ∨ i = 2 ∨ i = 3 := by omega
      rcases this with rfl | rfl | rfl | rfl <;> decide
    have hm : x6 * vals.getD i 0 ≤ x6 * 4 := Int.mul_le_mul_of_nonneg_left a1 h60
    have hm0 : 0 ≤ x6 * vals.getD i 0 := Int.mul_nonneg h60 a0
    have hq : (4 : Int) ^ (i + 1) = 4 ^ i * 4 := Int.pow_succ _ _
    have h6 := ih (i + 1) fuel (x5 + vals.getD i 0) (x6 * vals.getD i 0) (by omega) (by omega) (by omega) (by omega) (by omega) (by omega)
    push_cast at h6
    rw [hd, List.foldl_cons, List.foldl_cons]
    by_cases k1 : kind = 1
    · have hc := Contains_ok hk (vals.getD i 0) (reads_pre hs i (by omega) vs.nil) (by simp; omega)
      have hsl : Sl.mk vs.nil vs.blk (vs.off + 0 * 1) ((i : Int) - 0).toNat = Sl.mk vs.nil vs.blk vs.off i := by simp
      subst k1
      simp only [if_true] at h6 ⊢
      rw [distFrom]
      simp (disch := omega) only [impl_valuesHold.l0, dt, bt, Bool.and_self, cond_true, Int.toNat_natCast, Int.toNat_zero, rdn hs, Option.bind_some, wr, hsl]
      rw [ip (by simp; omega), hc]
      cases (vals.take i).contains (vals.getD i 0) with
      | true => simp only [impl_valuesHold.j1, dt, df, bt, bf, nt, nf, Bool.and_self, Bool.not_true, Bool.not_false, cond_true, cond_false, Int.toNat_natCast, Int.toNat_zero, Int.toNat_one, Option.bind_some, wr, AV.toB, AV.toI, AV.toS, if_true, Bool.false_and]
      | false => simp (disch := omega) only [impl_valuesHold.j1, impl_valuesHold.j3, dt, df, bt, bf, nt, nf, Bool.and_self, Bool.not_true, Bool.not_false, cond_true, cond_false, Int.toNat_natCast, Int.toNat_zero, Int.toNat_one, Option.bind_some, wr, AV.toB, AV.toI, AV.toS, if_true, h6, Bool.true_and]
    · simp only [if_neg k1] at h6 ⊢
      simp (disch := omega) only [impl_valuesHold.l0, impl_valuesHold.j1, impl_valuesHold.j3, dt, bf, Bool.and_self, cond_true, cond_false, Int.toNat_natCast, rdn hs, Option.bind_some, wr, h6]
theorem valuesHold_ok {k : Nat} (hk : 2000002 ≤ k) {kind value : Int} {cs vs : Sl} {H : Hp} {vals : List Int} (hs : Reads .i64 H vs vals) (hl : Vals vals) (h2 : KindLen kind vals.length) :
    callF PP orc k impl_valuesHold.id [.agg [.int .i64 kind, .sl 1 cs, .int .i64 value], .sl 1 vs] H = some (.bool (holdsV kind value vals), H) := by
  obtain ⟨k, rfl⟩ : ∃ q, k = q + 1 := ⟨k - 1, by omega⟩
  rw [impl_valuesHold.call]
  have h4 := hl.1
  have := implHold_l0 (show 2000001 ≤ k by omega) (kind := kind) (value := value) (cs := cs) hs hl h2 vals.length 0 k 0 1 (by omega) (by omega) (by omega) (by omega) (by omega) (by omega)
  simp only [List.drop_zero] at this
  have e := hs.len
  show impl_valuesHold.l0 (callF PP orc k) k k vs 0 1 vs (vs.len : Int) 0 kind cs value H = _
  rw [e]
  exact this

/-! ### impl.ruleMasks -/
/-- What the closure sees: the boxes of its variables. -/
structure Try (H : Hp) (cb : Nat) (rb vb ob tb : Nat) (kind value : Int) (cs ws vs os : Sl) : Prop where
  c : H[cb]? = some (some ⟨false, [.sl 1 ws]⟩)
  r : H[rb]? = some (some ⟨false, [.int .i64 kind, .sl 1 cs, .int .i64 value]⟩)
  v : H[vb]? = some (some ⟨false, [.sl 1 vs]⟩)
  o : H[ob]? = some (some ⟨false, [.sl 1 os]⟩)
  t : H[tb]? = some (some ⟨false, [.fn impl_ruleMasks_1.id [.ptr cb 0, .ptr rb 0, .ptr vb 0, .ptr ob 0, .ptr tb 0]]⟩)
  ne : (cb ≠ vs.blk ∧ cb ≠ os.blk) ∧ (rb ≠ vs.blk ∧ rb ≠ os.blk) ∧ (vb ≠ vs.blk ∧ vb ≠ os.blk) ∧ (ob ≠ vs.blk ∧ ob ≠ os.blk) ∧ (tb ≠ vs.blk ∧ tb ≠ os.blk)
theorem Try.adv {H H' : Hp} {cb rb vb ob tb : Nat} {kind value : Int} {cs ws vs os : Sl} (h : Try H cb rb vb ob tb kind value cs ws vs os) (g : Adv2 vs.blk os.blk H H') : Try H' cb rb vb ob tb kind value cs ws vs os := by
  obtain ⟨n1, n2, n3, n4, n5⟩ := h.ne
  exact ⟨g.but _ _ n1.1 n1.2 h.c, g.but _ _ n2.1 n2.2 h.r, g.but _ _ n3.1 n3.2 h.v, g.but _ _ n4.1 n4.2 h.o, g.but _ _ n5.1 n5.2 h.t, h.ne⟩
theorem box_sl {H : Hp} {b : Nat} {s : Sl} (h : H[b]? = some (some ⟨false, [.sl 1 s]⟩)) : ldS 1 H b 0 = some s := by unfold ldS Hp.cell; rw [h]; simp [AV.toS]
theorem adv_adv2 {a c : Nat} {H H' : Hp} (h : Adv a H H') : Adv2 a c H H' := ⟨fun d x h1 _ hx => h.but d x h1 hx, h.le⟩
theorem adv_adv2' {a c : Nat} {H H' : Hp} (h : Adv c H H') : Adv2 a c H H' := ⟨fun d x _ h2 hx => h.but d x h2 hx, h.le⟩
theorem Adv2.tr {a c : Nat} {H H1 H2 : Hp} (h : Adv2 a c H H1) (h' : Adv2 a c H1 H2) : Adv2 a c H H2 := h.trans h' (.inl rfl)

theorem Try_l0 (rec : Rec) (k : Nat) {B : Hp} {ob : Nat} {vs os : Sl} {vals : List Int} (hv : Vals vals) (hne : vs.blk ≠ os.blk) (hob : ob ≠ os.blk) :
    ∀ (j i fuel : Nat) (H : Hp) (fl : List Int), i + j = vals.length → j < fuel → B <+: H → Reads .i64 H vs vals → H[ob]? = some (some ⟨false, [.sl 1 os]⟩) → Ms fl → vals.length ≤ fl.length → Own 1 B H os (fl.map (.int .i64)) →
      ∃ H', impl_ruleMasks_1.l0 rec k fuel ob 0 vs vals.length i H = some (.tup [], H') ∧ B <+: H' ∧ Adv os.blk H H' ∧ Own 1 B H' os ((orFrom vals fl i j).map (.int .i64)) := by
  have hl := hv.1
  intro j
  induction j with
  | zero =>
    intro i fuel H fl hi hf hp hs hb hm hfl ho
    obtain ⟨fuel, rfl⟩ : ∃ q, fuel = q + 1 := ⟨fuel - 1, by omega⟩
    exact ⟨H, by simp (disch := omega) only [impl_ruleMasks_1.l0, dt, df, bt, bf, nt, nf, Bool.and_self, Bool.not_true, Bool.not_false, cond_true, cond_false, Int.toNat_natCast, Int.toNat_zero, Int.toNat_one, Option.bind_some, wr, AV.toB, AV.toI, AV.toS, if_true], hp, Adv.refl _ _, ho⟩
  | succ j ih =>
    intro i fuel H fl hi hf hp hs hb hm hfl ho
    obtain ⟨fuel, rfl⟩ : ∃ q, fuel = q + 1 := ⟨fuel - 1, by omega⟩
    have hfs : os.len = fl.length := by have := ho.len; simpa using this
    have hvl := hs.len
    obtain ⟨v0, v1⟩ := hv.at i
    obtain ⟨H1, a1, a2, a3, a4⟩ := own_set1 ho hp i (by omega) (mOr (fl.getD i 0) (pw (vals.getD i 0)))
    obtain ⟨H', b1, b2, b3, b4⟩ := ih (i + 1) fuel H1 _ (by omega) (by omega) a2 (a4.reads hne hs) (a4.but _ _ hob hb) (hm.set i (M.or (hm.at i) (M.pw v0 v1))) (by simpa using hfl) a3
    push_cast at b1
    refine ⟨H', ?_, b2, a4.trans b3, b4⟩
    simp (disch := omega) only [impl_ruleMasks_1.l0, dt, df, bt, bf, nt, nf, Bool.and_self, Bool.not_true, Bool.not_false, cond_true, cond_false, Int.toNat_natCast, Int.toNat_zero, Int.toNat_one, Option.bind_some, wr, AV.toB, AV.toI, AV.toS, if_true, box_sl hb, rdn (own_reads ho), rdn hs, iN, m_shl v0, m_or (hm.at i) (M.pw v0 v1), a1, b1]
theorem okTry : okF PP impl_ruleMasks_1.id = true := by kernel_rfl

theorem Try_ok {B : Hp} {cb rb vb ob tb : Nat} {kind value : Int} {cs ws vs os : Sl} {own : List Int} (hw : Reads .i64 B ws own) (hol : own.length ≤ 4) (hom : ∀ m ∈ own, (0 ≤ m ∧ m ≤ 30) ∧ m.tmod 2 = 0) (hk2 : KindLen kind own.length) (hne : vs.blk ≠ os.blk) :
    ∀ (rem k : Nat), 2000010 + rem ≤ k → ∀ (H : Hp) (vals rest fl : List Int), vals.length + rem = own.length → rest.length = rem → B <+: H → Try H cb rb vb ob tb kind value cs ws vs os → Own 1 B H vs ((vals ++ rest).map (.int .i64)) → Vals vals → fl.length = own.length → Ms fl → Own 1 B H os (fl.map (.int .i64)) →
      ∃ H' rest', callF PP orc k impl_ruleMasks_1.id [.int .i64 (vals.length : Int), .ptr cb 0, .ptr rb 0, .ptr vb 0, .ptr ob 0, .ptr tb 0] H = some (.tup [], H') ∧ rest'.length = rem ∧ B <+: H' ∧ Adv2 vs.blk os.blk H H' ∧ Own 1 B H' vs ((vals ++ rest').map (.int .i64)) ∧ Own 1 B H' os ((ways (holdsV kind value) (own.drop vals.length) vals fl).map (.int .i64)) := by
  intro rem
  induction rem with
  | zero =>
    intro k hk H vals rest fl hl hr hp ht hv hvals hfl hm ho
    obtain ⟨k, rfl⟩ : ∃ q, k = q + 1 := ⟨k - 1, by omega⟩
    rw [impl_ruleMasks_1.call]
    have er : rest = [] := List.length_eq_zero_iff.1 hr
    subst er
    rw [List.append_nil] at hv
    have hwl := hw.len
    have rv := own_reads hv
    have hvl := rv.len
    have h1 := valuesHold_ok (show 2000002 ≤ k by omega) (kind := kind) (value := value) (cs := cs) rv hvals (by rw [show vals.length = own.length by omega]; exact hk2)
    have r0 : ldI .i64 H rb 0 = some kind := by unfold ldI Hp.cell; rw [ht.r]; simp [AV.toI]
    have r1 : ldS 1 H rb (0 + 1) = some cs := by unfold ldS Hp.cell; rw [ht.r]; simp [AV.toS]
    have r2 : ldI .i64 H rb (0 + 1 + 1) = some value := by unfold ldI Hp.cell; rw [ht.r]; simp [AV.toI]
    rw [show own.drop vals.length = [] from List.drop_eq_nil_of_le (by omega), ways]
    cases hh : holdsV kind value vals with
    | true =>
      rw [hh] at h1
      obtain ⟨H', b1, b2, b3, b4⟩ := Try_l0 (callF PP orc k) k hvals hne ht.ne.2.2.2.1.2 vals.length 0 k H fl (by omega) (by have := hvals.1; omega) hp rv ht.o hm (by omega) ho
      refine ⟨H', [], ?_, rfl, b2, adv_adv2' b3, by rw [List.append_nil]; exact b3.but.own hne hv, b4⟩
      simp only [Int.natCast_zero] at b1
      simp (disch := omega) only [impl_ruleMasks_1.f, dt, df, bt, bf, nt, nf, Bool.and_self, Bool.not_true, Bool.not_false, cond_true, cond_false, Int.toNat_natCast, Int.toNat_zero, Int.toNat_one, Option.bind_some, wr, AV.toB, AV.toI, AV.toS, if_true, box_sl ht.c, box_sl ht.v, r0, r1, r2, h1, hvl, b1]
    | false =>
      rw [hh] at h1
      refine ⟨H, [], ?_, rfl, hp, Adv2.refl _ _ _, by rw [List.append_nil]; exact hv, by simpa using ho⟩
      simp (disch := omega) only [impl_ruleMasks_1.f, dt, df, bt, bf, nt, nf, Bool.and_self, Bool.not_true, Bool.not_false, cond_true, cond_false, Int.toNat_natCast, Int.toNat_zero, Int.toNat_one, Option.bind_some, wr, AV.toB, AV.toI, AV.toS, if_true, box_sl ht.c, box_sl ht.v, r0, r1, r2, h1]
  | succ rem ih =>
    intro k hk H vals rest fl hl hr hp ht hv hvals hfl hm ho
    obtain ⟨k, rfl⟩ : ∃ q, k = q + 1 := ⟨k - 1, by omega⟩
    rw [impl_ruleMasks_1.call]
    have hwl := hw.len
    have hcv : vals.length < own.length := by omega
    have hom' := hom _ (mem_getD hcv)
    have hd : own.drop vals.length = own.getD vals.length 0 :: own.drop (vals.length + 1) := by
      rw [List.drop_eq_getElem_cons hcv, List.getD_eq_getElem?_getD, List.getElem?_eq_getElem hcv]; rfl
    rw [hd, ways]
    generalize hmm : own.getD vals.length 0 = m at *
    have hM : M m := ⟨hom'.1.1, by have := hom'.1.2; omega⟩
    have hmv : maskVals m = mvFrom m 1 4 := by unfold maskVals; rw [if_pos hom']
    rw [hmv]
    have loop : ∀ (j v fuel : Nat) (Hc : Hp) (rest fl : List Int), v + j = 5 → 1 ≤ v → j < fuel → rest.length = rem + 1 → B <+: Hc → Try Hc cb rb vb ob tb kind value cs ws vs os → Own 1 B Hc vs ((vals ++ rest).map (.int .i64)) → fl.length = own.length → Ms fl → Own 1 B Hc os (fl.map (.int .i64)) →
        ∃ H' rest', impl_ruleMasks_1.l1 (callF PP orc k) k fuel (vals.length : Int) cb 0 vb 0 tb 0 v Hc = some (.tup [], H') ∧ rest'.length = rem + 1 ∧ B <+: H' ∧ Adv2 vs.blk os.blk Hc H' ∧ Own 1 B H' vs ((vals ++ rest').map (.int .i64)) ∧ Own 1 B H' os (((mvFrom m v j).foldl (fun f v => ways (holdsV kind value) (own.drop (vals.length + 1)) (vals ++ [v]) f) fl).map (.int .i64)) := by
      intro j
      induction j with
      | zero =>
        intro v fuel Hc rest fl hv5 hv1 hf hr hp ht hv hfl hm ho
        obtain ⟨fuel, rfl⟩ : ∃ q, fuel = q + 1 := ⟨fuel - 1, by omega⟩
        refine ⟨Hc, rest, ?_, hr, hp, Adv2.refl _ _ _, hv, ho⟩
        simp (disch := omega) only [impl_ruleMasks_1.l1, dt, df, bt, bf, nt, nf, Bool.and_self, Bool.not_true, Bool.not_false, cond_true, cond_false, Int.toNat_natCast, Int.toNat_zero, Int.toNat_one, Option.bind_some, wr, AV.toB, AV.toI, AV.toS, if_true]
      | succ j ihj =>
        intro v fuel Hc rest fl hv5 hv1 hf hr hp ht hv hfl hm ho
        obtain ⟨fuel, rfl⟩ : ∃ q, fuel = q + 1 := ⟨fuel - 1, by omega⟩
        have hvl := (own_reads hv).len
        simp only [List.length_append] at hvl
        have hb : mbit m v = has m v := by
          have := m_bit (v := (v : Int)) hM (by omega) (by omega)
          simpa [mbit] using this
        have hbit := m_bit' (v := (v : Int)) hM (by omega) (by omega)
        rw [Int.toNat_natCast] at hbit
        rw [mvFrom, hb]
        cases hh : has m v with
        | true =>
          rw [hh] at hbit
          obtain ⟨x, rest0, rfl⟩ : ∃ x rest0, rest = x :: rest0 := by
            cases rest with
            | nil => simp at hr
            | cons x r => exact ⟨x, r, rfl⟩
          obtain ⟨H1, a1, a2, a3, a4⟩ := own_set1 hv hp vals.length (by simp) (v : Int)
          have e1 : (vals ++ x :: rest0).set vals.length (v : Int) = (vals ++ [(v : Int)]) ++ rest0 := by
            rw [List.set_append_right _ _ (Nat.le_refl _), Nat.sub_self, List.set_cons_zero, List.append_assoc]; rfl
          rw [e1] at a3
          have ht1 := ht.adv (adv_adv2 (c := os.blk) a4)
          have hw1 := ways_ok (holdsV kind value) (own.drop (vals.length + 1)) (vals ++ [(v : Int)]) fl (hvals.app (by omega) ⟨by omega, by omega⟩) (by simp; omega) hm
          obtain ⟨H2, rest', b1, b2, b3, b4, b5, b6⟩ := ih k (by omega) H1 (vals ++ [(v : Int)]) rest0 fl (by simp; omega) (by simpa using hr) a2 ht1 a3 (hvals.app (by omega) ⟨by omega, by omega⟩) hfl hm (a4.but.own (Ne.symm hne) ho)
          rw [List.length_append, List.length_singleton] at b1 b6
          rw [List.append_assoc] at b5
          have adv2 : Adv2 vs.blk os.blk Hc H2 := (adv_adv2 (c := os.blk) a4).tr b4
          obtain ⟨H3, rest'', d1, d2, d3, d4, d5, d6⟩ := ihj (v + 1) fuel H2 ([(v : Int)] ++ rest') _ (by omega) (by omega) (by omega) (by simp; omega) b3 (ht.adv adv2) b5 (by rw [hw1.2]; exact hfl) hw1.1 b6
          have hf0 : ldF H1 tb 0 = some (impl_ruleMasks_1.id, [.ptr cb 0, .ptr rb 0, .ptr vb 0, .ptr ob 0, .ptr tb 0]) := by unfold ldF Hp.cell; rw [ht1.t]; simp [AV.toF]
          refine ⟨H3, rest'', ?_, d2, d3, adv2.tr d4, d5, ?_⟩
          · push_cast at d1 b1
            have rw0 := rdn (pf_reads hp hw) hcv
            rw [hmm] at rw0
            simp (disch := omega) only [impl_ruleMasks_1.l1, impl_ruleMasks_1.j2, dt, Bool.and_self, cond_true, Int.toNat_natCast, Option.bind_some, box_sl ht.c, box_sl ht.v, rw0, iN, hbit, hvl, a1, hf0, okTry, wr (n := (vals.length : Int) + 1), wr (n := (v : Int) + 1), List.cons_append, List.nil_append, List.all_cons, List.all_nil, AV.glob, AV.cell, b1, d1]
          · rw [if_pos rfl, List.cons_append, List.nil_append, List.foldl_cons]; exact d6
        | false =>
          rw [hh] at hbit
          obtain ⟨H3, rest'', d1, d2, d3, d4, d5, d6⟩ := ihj (v + 1) fuel Hc rest fl (by omega) (by omega) (by omega) hr hp ht hv hfl hm ho
          refine ⟨H3, rest'', ?_, d2, d3, d4, d5, ?_⟩
          · push_cast at d1
            have rw0 := rdn (pf_reads hp hw) hcv
            rw [hmm] at rw0
            simp (disch := omega) only [impl_ruleMasks_1.l1, impl_ruleMasks_1.j2, dt, Bool.and_self, cond_true, cond_false, Int.toNat_natCast, Option.bind_some, box_sl ht.c, rw0, iN, hbit, wr (n := (v : Int) + 1), d1]
          · rw [if_neg (by simp), List.nil_append]; exact d6
    obtain ⟨H', rest', b1, b2, b3, b4, b5, b6⟩ := loop 4 1 k H rest fl (by omega) (by omega) (by omega) hr hp ht hv hfl hm ho
    refine ⟨H', rest', ?_, b2, b3, b4, b5, b6⟩
    simp (disch := omega) only [impl_ruleMasks_1.f, dt, df, bt, bf, nt, nf, Bool.and_self, Bool.not_true, Bool.not_false, cond_true, cond_false, Int.toNat_natCast, Int.toNat_zero, Int.toNat_one, Option.bind_some, wr, AV.toB, AV.toI, AV.toS, if_true, box_sl ht.c]
    exact b1
end Go.Proofs.Ytjikkamhljbipaa.Rp
/- Squares, the program's own side; solved squares. No conditions. -/
set_option linter.unusedVariables false
set_option linter.unusedSimpArgs false
namespace Go.Proofs.Ytjikkamhljbipaa.Rp
open Go Go.RowKit Go.Proofs.Ytjikkamhljbipaa.Ab

/-- Which values were seen, as cells. -/
def seenC (seen : List Int) : List AV := (List.range 5).map fun (v : Nat) => .bool (seen.contains (v : Int))
theorem seen_set (seen : List Int) (v : Nat) (hv : v < 5) : (seenC seen).take v ++ [.bool true] ++ (seenC seen).drop (v + 1) = seenC ((v : Int) :: seen) := by
  apply List.ext_getElem?
  intro i
  have h0 : (seenC seen).length = 5 := by simp [seenC]
  have e : (seenC seen).take v ++ [.bool true] ++ (seenC seen).drop (v + 1) = (seenC seen).set v (.bool true) := by
    rw [List.set_eq_take_append_cons_drop, if_pos (by omega)]; simp
  rw [e]
  by_cases hi : i = v
  · subst hi
    rw [List.getElem?_set_self (by omega)]
    simp [seenC, hv]
  · rw [List.getElem?_set_ne (by omega)]
    by_cases h5 : i < 5
    · simp [seenC, h5, hi]
      intro e'; omega
    · rw [List.getElem?_eq_none (by omega), List.getElem?_eq_none (by simp [seenC]; omega)]

theorem reads_ne {H : Hp} {s : Sl} {l : List Int} {k : IntKind} {b : Nat} {seen : List Int} (hr : Reads k H s l) (hl : l ≠ []) (hb : H[b]? = some (some ⟨false, seenC seen⟩)) : s.blk ≠ b := by
  intro e
  have h0 : 0 < l.length := List.length_pos_iff.2 hl
  have := hr.cell 0 h0
  unfold Hp.cell at this
  rw [e, hb] at this
  simp only at this
  have hm := List.mem_of_getElem? this
  unfold seenC at hm
  obtain ⟨v, _, hv⟩ := List.mem_map.1 hm
  cases hv
theorem But.reads' {b : Nat} {H H' : Hp} (h : But b H H') {k : IntKind} {s : Sl} {l : List Int} {seen : List Int} (hb : H[b]? = some (some ⟨false, seenC seen⟩)) (hr : Reads k H s l) : Reads k H' s l := by
  by_cases hl : l = []
  · subst hl; exact reads_nil hr.len
  · exact h.reads (reads_ne hr hl hb) hr

theorem implSquareFits_l1 (rec : Rec) (k : Nat) (L0 : Sl → Int → Int → Int → Hp → An) {H0 : Hp} {s t : Sl} {g cells : List Int} {n top line : Int} {b : Nat} (hs : Reads .i64 H0 s g)
    (hc : ∀ c ∈ cells, 0 ≤ c ∧ c < (g.length : Int)) (hg : ∀ v ∈ g, 0 ≤ v ∧ v ≤ 4) (hl : cells.length ≤ 1000) (hline : IntKind.i64.wrap (line + 1) = line + 1) :
    ∀ (j i fuel : Nat) (H : Hp) (seen : List Int), i + j = cells.length → j < fuel → H0 <+: H → Own 1 H0 H (Sl.mk false b 0 5) (seenC seen) → Reads .i64 H t cells →
      ∃ H', H0 <+: H' ∧ impl_SquareFits.l1 rec k L0 fuel s n b 0 top line t cells.length i H = bif clashL g (cells.drop i) seen then some (.bool false, H') else L0 s n top (line + 1) H' := by
  intro j
  induction j with
  | zero =>
    intro i fuel H seen hi hf hp ho ht
    obtain ⟨fuel, rfl⟩ : ∃ q, fuel = q + 1 := ⟨fuel - 1, by omega⟩
    refine ⟨H, hp, ?_⟩
    simp [impl_SquareFits.l1, impl_SquareFits.j3, show ¬ i < cells.length by omega, List.drop_eq_nil_of_le (show cells.length ≤ i by omega), clashL, hline]
  | succ j ih =>
    intro i fuel H seen hi hf hp ho ht
    obtain ⟨fuel, rfl⟩ : ∃ q, fuel = q + 1 := ⟨fuel - 1, by omega⟩
    have h1 := ht.len
    have h2 : i < cells.length := by omega
    have h3 := reads_at ht i h2
    have h4 := wrs (i := i) (by omega)
    obtain ⟨c0, c1⟩ := hc _ (List.getElem_mem h2)
    have h5 := gv_at (pf_reads hp hs) c0 c1
    obtain ⟨v0, v1⟩ := hg _ (gv_mem c0 c1)
    rw [List.drop_eq_getElem_cons h2]
    simp only [clashL]
    obtain ⟨v, hv⟩ := Int.eq_ofNat_of_zero_le v0
    rw [hv] at h5 ⊢
    have hv5 : v < 5 := by omega
    have hsl := hs.len
    obtain ⟨H1, a1, a2, a3, a4, a5⟩ := own_sto ho hp v [.bool true] (by simp [seenC]; omega)
    rw [show v + [AV.bool true].length = v + 1 from rfl, seen_set seen v hv5] at a3
    simp only [Nat.zero_add] at a1
    obtain ⟨H', b1, b2⟩ := ih (i + 1) fuel H1 ((v : Int) :: seen) (by omega) (by omega) a2 a3 (a4.reads' ho.get ht)
    rw [show ((i + 1 : Nat) : Int) = (i : Int) + 1 by omega] at b2
    have q1 : ((i : Int) < (t.len : Int)) := by omega
    have q2 : ((i : Int) < (cells.length : Int)) := by omega
    have q0 : (0 : Int) ≤ (i : Int) := by omega
    have z0 : (0 : Int) ≤ (v : Int) := by omega
    have z3 : (v : Int) < ((5 : Nat) : Int) := by omega
    have c1' : cells[i] < (s.len : Int) := by omega
    have hld : ldB H b v = some (seen.contains (v : Int)) := by
      have := own_cell ho v
      simp only [Nat.zero_add] at this
      unfold ldB
      rw [this]
      simp [seenC, hv5, AV.toB]
    by_cases hp' : 0 < v
    · have z1 : ((v : Int) > 0) := by omega
      have z2 : (0 : Int) < (v : Int) := z1
      cases hse' : seen.contains (v : Int) with
      | true =>
        rw [hse'] at hld
        refine ⟨H, hp, ?_⟩
        simp only [impl_SquareFits.l1, impl_SquareFits.j2, impl_SquareFits.j4, impl_SquareFits.j5, q0, q1, q2, c0, c1', z0, z1, z2, z3, decide_true, Bool.and_self, cond_true, cond_false, Int.toNat_natCast, Nat.mul_one, Nat.zero_add, h3, h5, Option.bind_some, hld, Bool.true_or]
      | false =>
        rw [hse'] at hld
        refine ⟨H', b1, ?_⟩
        simp only [impl_SquareFits.l1, impl_SquareFits.j2, impl_SquareFits.j4, impl_SquareFits.j5, q0, q1, q2, c0, c1', z0, z1, z2, z3, decide_true, Bool.and_self, Bool.and_false, cond_true, cond_false, Int.toNat_natCast, Nat.mul_one, Nat.zero_add, h3, h5, Option.bind_some, hld, Bool.false_or, a1, h4, b2]
    · have z1 : ¬ ((v : Int) > 0) := by omega
      have z2 : ¬ (0 : Int) < (v : Int) := z1
      refine ⟨H', b1, ?_⟩
      simp only [impl_SquareFits.l1, impl_SquareFits.j2, impl_SquareFits.j4, impl_SquareFits.j5, q0, q1, q2, c0, c1', z0, z1, z2, z3, decide_true, decide_false, Bool.and_self, Bool.false_and, cond_true, cond_false, Int.toNat_natCast, Nat.mul_one, Nat.zero_add, h3, h5, Option.bind_some, Bool.false_or, a1, h4, b2]

theorem implSquareFits_l0 {k : Nat} (hk : 2000000 ≤ k) {H0 : Hp} {s : Sl} {g : List Int} {n : Int} (hs : Reads .i64 H0 s g) (hg : gridOk g n = true) :
    ∀ (j fuel line : Nat) (H : Hp), (line : Int) + j = 2 * n → j < fuel → H0 <+: H →
      ∃ H', impl_SquareFits.l0 (callF PP orc k) k fuel s n (2 * n) line H = some (.bool (!clashFrom g n line j), H') ∧ H0 <+: H' := by
  obtain ⟨⟨n1, n2⟩, n3, n4⟩ := (gridOk_iff g n).1 hg
  intro j
  induction j with
  | zero =>
    intro fuel line H hl hf hp
    obtain ⟨fuel, rfl⟩ : ∃ q, fuel = q + 1 := ⟨fuel - 1, by omega⟩
    refine ⟨H, ?_, hp⟩
    have : ¬ ((line : Int) < 2 * n) := by omega
    simp only [impl_SquareFits.l0, this, decide_false, cond_false, clashFrom, Bool.not_false]
  | succ j ih =>
    intro fuel line H hl hf hp
    obtain ⟨fuel, rfl⟩ : ∃ q, fuel = q + 1 := ⟨fuel - 1, by omega⟩
    have q1 : ((line : Int) < 2 * n) := by omega
    have hnew := own_base (own_new 1 H [.bool false, .bool false, .bool false, .bool false, .bool false] 5 rfl) hp
    obtain ⟨H1, a1, a2, a3, a4, a5⟩ := own_sto hnew (hp.trans (List.prefix_append _ _)) 0 [.bool false, .bool false, .bool false, .bool false, .bool false] (by simp)
    obtain ⟨t, H2, e1, e2, e3⟩ := implLineCells_ok hk n line H1
    have hseen : Own 1 H0 H1 (Sl.mk false H.length 0 5) (seenC []) := a3
    obtain ⟨H3, b1, b2⟩ := implSquareFits_l1 (callF PP orc k) k (impl_SquareFits.l0 (callF PP orc k) k fuel) (line := line) (n := n) (top := 2 * n) hs (fun c hc => by rw [n3]; exact lineCells_mem hc) (fun v hv => ⟨(n4 v hv).1, by have := (n4 v hv).2; omega⟩)
      (by have := lineCells_len n line; omega) (wr (by omega) (by omega)) (lineCells n line).length 0 k H2 [] (by omega) (by have := lineCells_len n line; omega) (a2.trans e2) (own_pf hseen e2) e3
    simp only [List.drop_zero, Int.natCast_zero] at b2
    simp only [Nat.zero_add] at a1
    have hlen := e3.len
    have a1' : (H ++ [some (Blk.mk false [.bool false, .bool false, .bool false, .bool false, .bool false])]).sto H.length 0 [.bool false, .bool false, .bool false, .bool false, .bool false] = some H1 := a1
    cases hc : clashL g (lineCells n line) [] with
    | true =>
      refine ⟨H3, ?_, b1⟩
      simp only [hc, cond_true] at b2
      simp only [impl_SquareFits.l0, q1, decide_true, cond_true, a1', e1, Option.bind_some, AV.toS, if_true, clashFrom, hc, Bool.true_or, Bool.not_true, hlen]
      exact b2
    | false =>
      obtain ⟨H', c1, c2⟩ := ih fuel (line + 1) H3 (by omega) (by omega) b1
      push_cast at c1
      refine ⟨H', ?_, c2⟩
      simp only [hc, cond_false] at b2
      simp only [impl_SquareFits.l0, q1, decide_true, cond_true, a1', e1, Option.bind_some, AV.toS, if_true, clashFrom, hc, Bool.false_or, hlen]
      exact b2.trans c1

theorem implSquareFits_ok {k : Nat} (hk : 2000001 ≤ k) {H : Hp} {s : Sl} {g : List Int} (n : Int) (hs : Reads .i64 H s g) (hl : g.length ≤ 1048576) :
    ∃ H', callF PP orc k impl_SquareFits.id [.sl 1 s, .int .i64 n] H = some (.bool (squareFits g n), H') ∧ H <+: H' := by
  obtain ⟨k, rfl⟩ : ∃ m, k = m + 1 := ⟨k - 1, by omega⟩
  rw [impl_SquareFits.call]
  have h1 := implGridValid_ok (show 2000000 ≤ k by omega) hs hl n
  cases hg : gridOk g n with
  | true =>
    obtain ⟨⟨n1, n2⟩, n3, n4⟩ := (gridOk_iff g n).1 hg
    have hw : IntKind.i64.wrap (2 * n) = 2 * n := wr (by omega) (by omega)
    obtain ⟨H', a1, a2⟩ := implSquareFits_l0 (show 2000000 ≤ k by omega) hs hg (2 * n).toNat k 0 H (by omega) (by omega) (List.prefix_refl _)
    refine ⟨H', ?_, a2⟩
    simp only [impl_SquareFits.f, h1, hg, Option.bind_some, AV.toB, Bool.not_true, cond_false, hw, squareFits, Bool.true_and]
    exact a1
  | false => exact ⟨H, by simp only [impl_SquareFits.f, h1, hg, Option.bind_some, AV.toB, Bool.not_false, cond_true, squareFits, Bool.false_and], List.prefix_refl _⟩

end Go.Proofs.Ytjikkamhljbipaa.Rp
/- The masks of a rule, what can hold, what fits: the program's own side. No conditions. -/
set_option linter.unusedVariables false
set_option linter.unusedSimpArgs false
namespace Go.Proofs.Ytjikkamhljbipaa.Rp
open Go Go.RowKit Go.Proofs.Ytjikkamhljbipaa.Ab

theorem get_new (L : Hp) (x : Option Blk) : (L ++ [x])[L.length]? = some x := by simp
theorem implruleMasks_ok {k : Nat} (hk : 2000030 ≤ k) {kind value : Int} {cs ws : Sl} {H : Hp} {own : List Int} (hw : Reads .i64 H ws own) (hol : own.length ≤ 4) (hom : ∀ m ∈ own, (0 ≤ m ∧ m ≤ 30) ∧ m.tmod 2 = 0) (hk2 : KindLen kind own.length) :
    ∃ t H', callF PP orc k impl_ruleMasks.id [.agg [.int .i64 kind, .sl 1 cs, .int .i64 value], .sl 1 ws] H = some (.sl 1 t, H') ∧ H <+: H' ∧ Own 1 H H' t ((ruleMasksV kind value own).map (.int .i64)) := by
  obtain ⟨k, rfl⟩ : ∃ q, k = q + 1 := ⟨k - 1, by omega⟩
  rw [impl_ruleMasks.call]
  have hwl := hw.len
  obtain ⟨Ha, hHa⟩ : ∃ X, H ++ [some (Blk.mk false [.int .i64 kind, .sl 1 cs, .int .i64 value])] = X := ⟨_, rfl⟩
  obtain ⟨Hb, hHb⟩ : ∃ X, Ha ++ [some (Blk.mk false [.sl 1 ws])] = X := ⟨_, rfl⟩
  obtain ⟨Hc, hHc⟩ : ∃ X, Hb ++ [some (Blk.mk false ((List.replicate own.length (0 : Int)).map (.int .i64)))] = X := ⟨_, rfl⟩
  obtain ⟨Hd, hHd⟩ : ∃ X, Hc ++ [some (Blk.mk false [.sl 1 Sl.none])] = X := ⟨_, rfl⟩
  have la : Ha.length = H.length + 1 := by rw [← hHa]; simp
  have lb : Hb.length = H.length + 2 := by rw [← hHb]; simp [la]
  have lc : Hc.length = H.length + 3 := by rw [← hHc]; simp [lb]
  have ld : Hd.length = H.length + 4 := by rw [← hHd]; simp [lc]
  have pa : H <+: Ha := by rw [← hHa]; exact (List.prefix_append _ _)
  have pb : Ha <+: Hb := by rw [← hHb]; exact (List.prefix_append _ _)
  have pc : Hb <+: Hc := by rw [← hHc]; exact (List.prefix_append _ _)
  have pd : Hc <+: Hd := by rw [← hHd]; exact (List.prefix_append _ _)
  have ga : Ha[H.length]? = some (some (Blk.mk false [.int .i64 kind, .sl 1 cs, .int .i64 value])) := by rw [← hHa]; exact get_new _ _
  have gb : Hb[Ha.length]? = some (some (Blk.mk false [.sl 1 ws])) := by rw [← hHb]; exact get_new _ _
  have gc : Hc[Hb.length]? = some (some (Blk.mk false ((List.replicate own.length (0 : Int)).map (.int .i64)))) := by rw [← hHc]; exact get_new _ _
  have gd : Hd[Hc.length]? = some (some (Blk.mk false [.sl 1 Sl.none])) := by rw [← hHd]; exact get_new _ _
  obtain ⟨H2, a1, a2, a3, a4⟩ := sto1' gd (.sl 1 (Sl.mk false Hb.length 0 own.length))
  obtain ⟨He, hHe⟩ : ∃ X, H2 ++ [some (Blk.mk false ((List.replicate own.length (0 : Int)).map (.int .i64)))] = X := ⟨_, rfl⟩
  obtain ⟨Hf, hHf⟩ : ∃ X, He ++ [some (Blk.mk false [.sl 1 Sl.none])] = X := ⟨_, rfl⟩
  have le : He.length = H.length + 5 := by rw [← hHe]; simp; omega
  have lf : Hf.length = H.length + 6 := by rw [← hHf]; simp [le]
  have pe : H2 <+: He := by rw [← hHe]; exact (List.prefix_append _ _)
  have pf : He <+: Hf := by rw [← hHf]; exact (List.prefix_append _ _)
  have ge : He[H2.length]? = some (some (Blk.mk false ((List.replicate own.length (0 : Int)).map (.int .i64)))) := by rw [← hHe]; exact get_new _ _
  have gf : Hf[He.length]? = some (some (Blk.mk false [.sl 1 Sl.none])) := by rw [← hHf]; exact get_new _ _
  obtain ⟨H4, b1, b2, b3, b4⟩ := sto1' gf (.sl 1 (Sl.mk false H2.length 0 own.length))
  obtain ⟨Hg, hHg⟩ : ∃ X, H4 ++ [some (Blk.mk false [.nilf])] = X := ⟨_, rfl⟩
  have lg : Hg.length = H.length + 7 := by rw [← hHg]; simp; omega
  have pg : H4 <+: Hg := by rw [← hHg]; exact (List.prefix_append _ _)
  have gg : Hg[H4.length]? = some (some (Blk.mk false [.nilf])) := by rw [← hHg]; exact get_new _ _
  obtain ⟨H5, c1, c2, c3, c4⟩ := sto1' gg (.fn impl_ruleMasks_1.id [.ptr Ha.length 0, .ptr H.length 0, .ptr He.length 0, .ptr Hc.length 0, .ptr H4.length 0])
  -- what lies where in the end
  have up : ∀ {d : Nat} {x : Blk}, d ≠ Hc.length → Hd[d]? = some (some x) → H2[d]? = some (some x) := fun h h' => a3 _ _ h h'
  have up4 : ∀ {d : Nat} {x : Blk}, d ≠ He.length → H2[d]? = some (some x) → H4[d]? = some (some x) := fun h h' => b3 _ _ h (pf_get (pe.trans pf) h')
  have up5 : ∀ {d : Nat} {x : Blk}, d ≠ H4.length → H4[d]? = some (some x) → H5[d]? = some (some x) := fun h h' => c3 _ _ h (pf_get pg h')
  have hr5 := up5 (by omega) (up4 (by omega) (up (by omega) (pf_get (pb.trans (pc.trans pd)) ga)))
  have hb2 := up (by omega) (pf_get (pc.trans pd) gb)
  have hb5 := up5 (by omega) (up4 (by omega) hb2)
  have hc5 := up5 (by omega) (up4 (by omega) (up (by omega) (pf_get pd gc)))
  have ho5 := up5 (by omega) (up4 (by omega) a2)
  have hv5 := up5 (by omega) (b3 _ _ (by omega) (pf_get pf ge))
  have hvb5 := up5 (by omega) b2
  have p5 : H <+: H5 := by
    have q2 : H <+: H2 := a3.pf (by omega) (pa.trans (pb.trans (pc.trans pd))) (by omega)
    have q4 : H <+: H4 := b3.pf (by omega) (q2.trans (pe.trans pf)) (by omega)
    exact c3.pf (by omega) (q4.trans pg) (by omega)
  have ht : Try H5 Ha.length H.length He.length Hc.length H4.length kind value cs ws (Sl.mk false H2.length 0 own.length) (Sl.mk false Hb.length 0 own.length) :=
    ⟨hb5, hr5, hvb5, ho5, c2, by simp only; omega⟩
  obtain ⟨H', rest', d1, d2, d3, d4, d5, d6⟩ := Try_ok (B := H) (value := value) hw hol hom hk2 (vs := Sl.mk false H2.length 0 own.length) (os := Sl.mk false Hb.length 0 own.length) (by simp only; omega) own.length k (by omega) H5 [] (List.replicate own.length 0) (List.replicate own.length 0) (by simp) (by simp) p5 ht
    ⟨rfl, rfl, by simp only; omega, by simpa using hv5, by simp⟩ ⟨by simp, fun v hv => by cases hv⟩ (by simp) (Ms.zeros _) ⟨rfl, rfl, by simp only; omega, hc5, by simp⟩
  have ht' := ht.adv d4
  refine ⟨Sl.mk false Hb.length 0 own.length, H', ?_, d3, by simpa [ruleMasksV] using d6⟩
  have l1 : ldS 1 Hb Ha.length 0 = some ws := box_sl gb
  have l2 : ldS 1 H2 Ha.length 0 = some ws := box_sl hb2
  have l3 : ldF H5 H4.length 0 = some (impl_ruleMasks_1.id, [.ptr Ha.length 0, .ptr H.length 0, .ptr He.length 0, .ptr Hc.length 0, .ptr H4.length 0]) := by unfold ldF Hp.cell; rw [c2]; simp [AV.toF]
  have l4 := box_sl ht'.o
  simp only [List.length_nil, Int.natCast_zero] at d1
  simp only [impl_ruleMasks.f, hHa, hHb, l1, Option.bind_some]
  rw [ip (by omega)]
  simp only [hwl, Int.toNat_natCast, flat0s, hHc, hHd, a1, Option.bind_some, l2]
  rw [ip (by omega)]
  simp only [hwl, Int.toNat_natCast, flat0s, hHe, hHf, b1, Option.bind_some, hHg, c1, l3, okTry, List.cons_append, List.nil_append, List.all_cons, List.all_nil, AV.glob, AV.cell, Bool.and_self, cond_true, d1, l4]

theorem kindLen_of {n kind value : Int} {m : Nat} (h : kindOk n kind value m = true) : KindLen kind m := by
  unfold kindOk at h
  unfold KindLen
  split at h
  · omega
  · split at h
    · omega
    · split at h
      · simp only [decide_eq_true_eq] at h; omega
      · split at h
        · simp only [decide_eq_true_eq] at h; omega
        · cases h
theorem ownOf_even {n : Int} {masks cells : List Int} (hm : masksOk n masks = true) (hc : ∀ c ∈ cells, 0 ≤ c ∧ c < (masks.length : Int)) : ∀ m ∈ ownOf masks cells, (0 ≤ m ∧ m ≤ 30) ∧ m.tmod 2 = 0 := fun m h => by
  obtain ⟨c, hc', rfl⟩ := List.mem_map.1 h
  obtain ⟨c0, c1⟩ := hc c hc'
  have := (masksOk_iff.1 hm).2.1 _ (gv_mem c0 c1)
  unfold maskOk at this
  simp only [Bool.and_eq_true, decide_eq_true_eq, beq_iff_eq] at this
  have ht := topMask_le n
  omega

/-! ### impl.canHold -/
theorem canHold_l0 {k : Nat} (hk : 2000040 ≤ k) {n kind value : Int} {cs xs : Sl} {H0 : Hp} {cells g : List Int} (hc : Reads .i64 H0 cs cells) (hx : Reads .i64 H0 xs g) (hr : ruleOk n kind cells value = true) (hg : gridOk g n = true) :
    ∀ (j i fuel : Nat) (H : Hp) (t : Sl), i + j = cells.length → j < fuel → H0 <+: H → Own 1 H0 H t ((ownOf (openOf n g) (cells.take i)).map (.int .i64)) →
      ∃ H', impl_canHold.l0 (callF PP orc k) k fuel xs n t cs cells.length i kind cs value H = some (.bool (canHoldV n g (kind, cells, value)), H') ∧ H0 <+: H' := by
  obtain ⟨hn, g2, g3⟩ := (gridOk_iff g n).1 hg
  obtain ⟨c1, c2, c3, c4⟩ := ruleOk_cells hr
  have hcl := hc.len
  have hxl := hx.len
  have hop : (openOf n g).length = g.length := by simp [openOf]
  intro j
  induction j with
  | zero =>
    intro i fuel H t hi hf hp ho
    obtain ⟨fuel, rfl⟩ : ∃ q, fuel = q + 1 := ⟨fuel - 1, by omega⟩
    rw [List.take_of_length_le (by omega)] at ho
    have hkl : KindLen kind (ownOf (openOf n g) cells).length := by
      simp only [ownOf, List.length_map]
      unfold ruleOk at hr; rw [Bool.and_eq_true] at hr; exact kindLen_of hr.2
    obtain ⟨u, H1, a1, a2, a3⟩ := implruleMasks_ok (show 2000030 ≤ k by omega) (kind := kind) (value := value) (cs := cs) (own_reads ho) (by simp [ownOf]; omega) (ownOf_even (openOf_ok hg) fun c h => by have := c1 c h; omega) hkl
    refine ⟨H1, ?_, hp.trans a2⟩
    have hl : (ruleMasksV kind value (ownOf (openOf n g) cells)).length = cells.length := by
      unfold ruleMasksV
      rw [(ways_ok _ _ [] _ ⟨by simp, fun v hv => by cases hv⟩ (by simp [ownOf]; omega) (Ms.zeros _)).2]
      simp [ownOf]
    have hul := (own_reads a3).len
    have hd : (ruleMasksV kind value (ownOf (openOf n g) cells)).getD 0 0 = (ruleMasksV kind value (ownOf (openOf n g) cells)).headD 0 := by
      cases ruleMasksV kind value (ownOf (openOf n g) cells) <;> rfl
    simp (disch := omega) only [impl_canHold.l0, impl_canHold.j2, dt, df, bt, bf, nt, nf, Bool.and_self, Bool.not_true, Bool.not_false, cond_true, cond_false, Int.toNat_natCast, Int.toNat_zero, Int.toNat_one, Option.bind_some, wr, AV.toB, AV.toI, AV.toS, if_true, a1, rdn (own_reads a3), hd]
    rfl
  | succ j ih =>
    intro i fuel H t hi hf hp ho
    obtain ⟨fuel, rfl⟩ : ∃ q, fuel = q + 1 := ⟨fuel - 1, by omega⟩
    have hi2 : i < cells.length := by omega
    have hcc := c1 _ (mem_getD hi2)
    have hlt : (cells.getD i 0).toNat < g.length := by omega
    obtain ⟨v0, v1⟩ := g3 _ (mem_getD hlt)
    have htl : t.len = i := by have := ho.len; simp [ownOf] at this; omega
    have hval : gv (openOf n g) (cells.getD i 0) = if g.getD (cells.getD i 0).toNat 0 > 0 then pw (g.getD (cells.getD i 0).toNat 0) else topMask n := by
      unfold gv openOf
      rw [List.getD_eq_getElem?_getD, List.getElem?_map, List.getElem?_eq_getElem hlt, List.getD_eq_getElem?_getD (l := g), List.getElem?_eq_getElem hlt]; rfl
    have htk : ownOf (openOf n g) (cells.take (i + 1)) = ownOf (openOf n g) (cells.take i) ++ [gv (openOf n g) (cells.getD i 0)] := by
      rw [List.take_succ_eq_append_getElem hi2]; unfold ownOf
      rw [List.map_append, List.getD_eq_getElem?_getD, List.getElem?_eq_getElem hi2]; rfl
    obtain ⟨H1, a1, a2, a3, a4, a5⟩ := own_app1 ho hp (gv (openOf n g) (cells.getD i 0)) (by omega)
    rw [← htk] at a3
    obtain ⟨H', b1, b2⟩ := ih (i + 1) fuel H1 _ (by omega) (by omega) a2 a3
    push_cast at b1
    refine ⟨H', ?_, b2⟩
    rw [hval] at a1
    by_cases c : g.getD (cells.getD i 0).toNat 0 > 0
    · rw [ip c] at a1
      simp (disch := omega) only [impl_canHold.l0, impl_canHold.j1, dt, df, bt, bf, nt, nf, Bool.and_self, Bool.not_true, Bool.not_false, cond_true, cond_false, Int.toNat_natCast, Int.toNat_zero, Int.toNat_one, Option.bind_some, wr, AV.toB, AV.toI, AV.toS, if_true, rdn (pf_reads hp hc), rdn (pf_reads hp hx), iN, m_shl v0, a1, b1]
    · rw [iN c] at a1
      simp (disch := omega) only [impl_canHold.l0, impl_canHold.j1, dt, df, bt, bf, nt, nf, Bool.and_self, Bool.not_true, Bool.not_false, cond_true, cond_false, Int.toNat_natCast, Int.toNat_zero, Int.toNat_one, Option.bind_some, wr, AV.toB, AV.toI, AV.toS, if_true, rdn (pf_reads hp hc), rdn (pf_reads hp hx), allValues_ok (show 1 ≤ k by omega) hn, a1, b1]
theorem canHold_ok {k : Nat} (hk : 2000041 ≤ k) {n kind value : Int} {cs xs : Sl} {H : Hp} {cells g : List Int} (hc : Reads .i64 H cs cells) (hx : Reads .i64 H xs g) (hr : ruleOk n kind cells value = true) (hg : gridOk g n = true) :
    ∃ H', callF PP orc k impl_canHold.id [.agg [.int .i64 kind, .sl 1 cs, .int .i64 value], .sl 1 xs, .int .i64 n] H = some (.bool (canHoldV n g (kind, cells, value)), H') ∧ H <+: H' := by
  obtain ⟨k, rfl⟩ : ∃ q, k = q + 1 := ⟨k - 1, by omega⟩
  rw [impl_canHold.call]
  have hcl := hc.len
  have := (ruleOk_cells hr).2.1
  obtain ⟨H', a1, a2⟩ := canHold_l0 (show 2000040 ≤ k by omega) hc hx hr hg cells.length 0 k (H ++ [some (Blk.mk false [])]) (Sl.mk false H.length 0 0) (by omega) (by omega) (List.prefix_append _ _) (own_new 1 H [] 0 rfl)
  refine ⟨H', ?_, a2⟩
  simp only [Int.natCast_zero] at a1
  simp only [impl_canHold.f, hcl, a1]

/-! ### impl.PuzzleFits, impl.PuzzleSolved -/
theorem implFits_l6 {k : Nat} (hk : 2000041 ≤ k) {H0 : Hp} {n : Int} {gs s xs : Sl} {given g : List Int} {rs : List R} (hz : PuzAt H0 n gs s given rs) (hro : ∀ r ∈ rs, R.ok n r = true) (hx : Reads .i64 H0 xs g) (hg : gridOk g n = true) :
    ∀ (j i fuel : Nat) (H : Hp), i + j = rs.length → j < fuel → H0 <+: H → ∃ H', impl_PuzzleFits.l6 (callF PP orc k) k fuel xs s rs.length i n gs s H = some (.bool (((rs.drop i).map R.val).all (canHoldV n g)), H') ∧ H0 <+: H' := by
  have hlen := hz.rr.len
  have hrl := hz.rl
  intro j
  induction j with
  | zero =>
    intro i fuel H hi hf hp
    obtain ⟨fuel, rfl⟩ : ∃ q, fuel = q + 1 := ⟨fuel - 1, by omega⟩
    refine ⟨H, ?_, hp⟩
    rw [List.drop_eq_nil_of_le (by omega), List.map_nil, List.all_nil]
    simp (disch := omega) only [impl_PuzzleFits.l6, dt, df, bt, bf, nt, nf, Bool.and_self, Bool.not_true, Bool.not_false, cond_true, cond_false, Int.toNat_natCast, Int.toNat_zero, Int.toNat_one, Option.bind_some, wr, AV.toB, AV.toI, AV.toS, if_true]
  | succ j ih =>
    intro i fuel H hi hf hp
    obtain ⟨fuel, rfl⟩ : ∃ q, fuel = q + 1 := ⟨fuel - 1, by omega⟩
    have hi2 : i < rs.length := by omega
    obtain ⟨l0, l1, l2⟩ := rules_at1 (pf_readsR hp hz.rr) i hi2
    obtain ⟨H1, a1, a2⟩ := canHold_ok hk (pf_reads hp (hz.rr.cs i hi2)) (pf_reads hp hx) (hro _ (List.getElem_mem hi2)) hg
    obtain ⟨H', b1, b2⟩ := ih (i + 1) fuel H1 (by omega) (by omega) (hp.trans a2)
    push_cast at b1
    rw [List.drop_eq_getElem_cons hi2, List.map_cons, List.all_cons]
    have e : canHoldV n g rs[i].val = canHoldV n g (rs[i].kind, rs[i].cells, rs[i].value) := rfl
    rw [e]
    cases c : canHoldV n g (rs[i].kind, rs[i].cells, rs[i].value) with
    | true =>
      rw [c] at a1
      refine ⟨H', ?_, b2⟩
      simp (disch := omega) only [impl_PuzzleFits.l6, dt, df, bt, bf, nt, nf, Bool.and_self, Bool.not_true, Bool.not_false, cond_true, cond_false, Int.toNat_natCast, Int.toNat_zero, Int.toNat_one, Option.bind_some, wr, AV.toB, AV.toI, AV.toS, if_true, l0, l1, l2, a1, b1, Bool.true_and]
    | false =>
      rw [c] at a1
      refine ⟨H1, ?_, hp.trans a2⟩
      simp (disch := omega) only [impl_PuzzleFits.l6, dt, df, bt, bf, nt, nf, Bool.and_self, Bool.not_true, Bool.not_false, cond_true, cond_false, Int.toNat_natCast, Int.toNat_zero, Int.toNat_one, Option.bind_some, wr, AV.toB, AV.toI, AV.toS, if_true, l0, l1, l2, a1, Bool.false_and]
theorem implFits_l2 {k : Nat} (hk : 2000041 ≤ k) {H : Hp} {n : Int} {gs s xs : Sl} {given g : List Int} {rs : List R} (hz : PuzAt H n gs s given rs) (hro : ∀ r ∈ rs, R.ok n r = true) (hx : Reads .i64 H xs g) (hg : gridOk g n = true) (hl : given.length = g.length) :
    ∀ (j i fuel : Nat), i + j = g.length → j < fuel → ∃ H', impl_PuzzleFits.l2 (callF PP orc k) k fuel xs xs g.length i n gs s H = some (.bool (compatFrom given g i j && (rs.map R.val).all (canHoldV n g)), H') ∧ H <+: H' := by
  have hgl := hz.rg.len
  have hxl := hx.len
  have hrl := hz.rr.len
  have h16 := gridOk_len hg
  intro j
  induction j with
  | zero =>
    intro i fuel hi hf
    obtain ⟨fuel, rfl⟩ : ∃ q, fuel = q + 1 := ⟨fuel - 1, by omega⟩
    obtain ⟨H1, a1, a2⟩ := implFits_l6 hk hz hro hx hg rs.length 0 k H (by omega) (by have := hz.rl; omega) (List.prefix_refl _)
    simp only [Int.natCast_zero, List.drop_zero] at a1
    refine ⟨H1, ?_, a2⟩
    simp (disch := omega) only [impl_PuzzleFits.l2, impl_PuzzleFits.j4, dt, df, bt, bf, nt, nf, Bool.and_self, Bool.not_true, Bool.not_false, cond_true, cond_false, Int.toNat_natCast, Int.toNat_zero, Int.toNat_one, Option.bind_some, wr, AV.toB, AV.toI, AV.toS, if_true, hrl, a1, compatFrom, Bool.true_and]
  | succ j ih =>
    intro i fuel hi hf
    obtain ⟨fuel, rfl⟩ : ∃ q, fuel = q + 1 := ⟨fuel - 1, by omega⟩
    obtain ⟨H', b1, b2⟩ := ih (i + 1) fuel (by omega) (by omega)
    push_cast at b1
    rw [compatFrom]
    by_cases c2 : g.getD i 0 > 0
    · by_cases c1 : given.getD i 0 > 0
      · by_cases c3 : g.getD i 0 = given.getD i 0
        · refine ⟨H', ?_, b2⟩
          simp (disch := omega) only [impl_PuzzleFits.l2, impl_PuzzleFits.j3, impl_PuzzleFits.j5, dt, df, bt, bf, nt, nf, Bool.and_self, Bool.not_true, Bool.not_false, cond_true, cond_false, Int.toNat_natCast, Int.toNat_zero, Int.toNat_one, Option.bind_some, wr, AV.toB, AV.toI, AV.toS, if_true, rdn hz.rg, rdn hx, b1, Bool.and_false, Bool.true_and]
        · refine ⟨H, ?_, (List.prefix_refl _)⟩
          simp (disch := omega) only [impl_PuzzleFits.l2, impl_PuzzleFits.j3, impl_PuzzleFits.j5, dt, df, bt, bf, nt, nf, Bool.and_self, Bool.not_true, Bool.not_false, cond_true, cond_false, Int.toNat_natCast, Int.toNat_zero, Int.toNat_one, Option.bind_some, wr, AV.toB, AV.toI, AV.toS, if_true, rdn hz.rg, rdn hx, Bool.and_true, Bool.false_and]
      · refine ⟨H', ?_, b2⟩
        simp (disch := omega) only [impl_PuzzleFits.l2, impl_PuzzleFits.j3, impl_PuzzleFits.j5, dt, df, bt, bf, nt, nf, Bool.and_self, Bool.not_true, Bool.not_false, cond_true, cond_false, Int.toNat_natCast, Int.toNat_zero, Int.toNat_one, Option.bind_some, wr, AV.toB, AV.toI, AV.toS, if_true, rdn hz.rg, rdn hx, b1, Bool.and_false, Bool.false_and, Bool.true_and]
    · refine ⟨H', ?_, b2⟩
      simp (disch := omega) only [impl_PuzzleFits.l2, impl_PuzzleFits.j3, impl_PuzzleFits.j5, dt, df, bt, bf, nt, nf, Bool.and_self, Bool.not_true, Bool.not_false, cond_true, cond_false, Int.toNat_natCast, Int.toNat_zero, Int.toNat_one, Option.bind_some, wr, AV.toB, AV.toI, AV.toS, if_true, rdn hz.rg, rdn hx, b1, Bool.and_false, Bool.false_and, Bool.true_and]
theorem implPuzzleFits_ok {k : Nat} (hk : 2000042 ≤ k) {H : Hp} {n : Int} {gs s xs : Sl} {given g : List Int} {rs : List R} (hz : PuzAt H n gs s given rs) (hx : Reads .i64 H xs g) (hl : g.length ≤ 1000) :
    ∃ H', callF PP orc k impl_PuzzleFits.id [.agg [.int .i64 n, .sl 1 gs, .sl 3 s], .sl 1 xs] H = some (.bool (puzzleFitsV n given (rs.map R.val) g), H') ∧ H <+: H' := by
  obtain ⟨k, rfl⟩ : ∃ q, k = q + 1 := ⟨k - 1, by omega⟩
  rw [impl_PuzzleFits.call]
  have h1 := implPuzzleValid_ok (show 2000003 ≤ k by omega) hz.n4 hz.rg hz.gl hz.rr hz.rl hz.rc
  rw [puzzle_map] at h1
  unfold puzzleFitsV
  cases c1 : puzzleV n given (rs.map R.val) with
  | false =>
    rw [c1] at h1
    exact ⟨H, by simp only [impl_PuzzleFits.f, impl_PuzzleFits.j0, dt, df, bt, bf, nt, nf, Bool.and_self, Bool.not_true, Bool.not_false, cond_true, cond_false, Int.toNat_natCast, Int.toNat_zero, Int.toNat_one, Option.bind_some, wr, AV.toB, AV.toI, AV.toS, if_true, h1, Bool.false_and], (List.prefix_refl _)⟩
  | true =>
    rw [c1] at h1
    obtain ⟨p1, p2, p3⟩ := puzzleV_iff c1
    obtain ⟨H1, a1, a2⟩ := implSquareFits_ok (show 2000001 ≤ k by omega) n hx (by omega)
    unfold squareFits at a1
    cases c2 : gridOk g n with
    | false =>
      rw [c2] at a1
      exact ⟨H1, by simp only [impl_PuzzleFits.f, impl_PuzzleFits.j0, dt, df, bt, bf, nt, nf, Bool.and_self, Bool.not_true, Bool.not_false, cond_true, cond_false, Int.toNat_natCast, Int.toNat_zero, Int.toNat_one, Option.bind_some, wr, AV.toB, AV.toI, AV.toS, if_true, h1, a1, Bool.false_and, Bool.true_and], a2⟩
    | true =>
      rw [c2, Bool.true_and] at a1
      cases c3 : clash g n with
      | true =>
        rw [c3] at a1
        refine ⟨H1, ?_, a2⟩
        unfold fitsV
        simp only [impl_PuzzleFits.f, impl_PuzzleFits.j0, dt, df, bt, bf, nt, nf, Bool.and_self, Bool.not_true, Bool.not_false, cond_true, cond_false, Int.toNat_natCast, Int.toNat_zero, Int.toNat_one, Option.bind_some, wr, AV.toB, AV.toI, AV.toS, if_true, h1, a1, Bool.true_and, c3, Bool.and_false]
      | false =>
        rw [c3] at a1
        obtain ⟨H2, b1, b2⟩ := implFits_l2 (show 2000041 ≤ k by omega) (hz.pf a2) p3 (pf_reads a2 hx) c2 (grid_len_eq p1 c2) g.length 0 k (by omega) (by omega)
        have hxl := hx.len
        refine ⟨H2, ?_, a2.trans b2⟩
        simp only [Int.natCast_zero] at b1
        unfold fitsV compatB
        simp only [impl_PuzzleFits.f, impl_PuzzleFits.j0, impl_PuzzleFits.j1, dt, df, bt, bf, nt, nf, Bool.and_self, Bool.not_true, Bool.not_false, cond_true, cond_false, Int.toNat_natCast, Int.toNat_zero, Int.toNat_one, Option.bind_some, wr, AV.toB, AV.toI, AV.toS, if_true, h1, a1, hxl, b1, Bool.true_and, c3, Bool.and_true]
end Go.Proofs.Ytjikkamhljbipaa.Rp
/- What the masks of a rule mean; emptying a cell keeps what fits. No conditions. -/
set_option linter.unusedVariables false
set_option linter.unusedSimpArgs false
namespace Go.Proofs.Ytjikkamhljbipaa.Rp
open Go Go.RowKit Go.Proofs.Ytjikkamhljbipaa.Ab

theorem orFrom_has {vals : List Int} (hv : Vals vals) : ∀ (j i : Nat) {fl : List Int}, Ms fl → i + j = vals.length → vals.length ≤ fl.length → ∀ x v : Nat, has ((orFrom vals fl i j).getD x 0) v = true ↔ has (fl.getD x 0) v = true ∨ (i ≤ x ∧ x < i + j ∧ vals.getD x 0 = (v : Int))
  | 0, i, fl, h, _, _, x, v => by rw [orFrom]; constructor; exact .inl; rintro (h | h); exact h; omega
  | j + 1, i, fl, h, hi, hl, x, v => by
    have hM := M.pw (hv.at i).1 (hv.at i).2
    rw [orFrom, orFrom_has hv j (i + 1) (h.set i (M.or (h.at i) hM)) (by omega) (by simpa using hl)]
    by_cases e : x = i
    · subst e
      have : (fl.set x (mOr (fl.getD x 0) (pw (vals.getD x 0)))).getD x 0 = mOr (fl.getD x 0) (pw (vals.getD x 0)) := by
        rw [List.getD_eq_getElem?_getD, List.getElem?_set_self (by omega)]; rfl
      rw [this, has_or, has_pw (hv.at x).1]
      simp only [Bool.or_eq_true, decide_eq_true_eq]
      constructor
      · rintro ((h | h) | h)
        · exact .inl h
        · exact .inr ⟨by omega, by omega, h.symm⟩
        · omega
      · rintro (h | h)
        · exact .inl (.inl h)
        · exact .inl (.inr h.2.2.symm)
    · have : (fl.set i (mOr (fl.getD i 0) (pw (vals.getD i 0)))).getD x 0 = fl.getD x 0 := by
        rw [List.getD_eq_getElem?_getD, List.getElem?_set_ne (Ne.symm e), ← List.getD_eq_getElem?_getD]
      rw [this]
      constructor
      · rintro (h | h)
        · exact .inl h
        · exact .inr ⟨by omega, by omega, h.2.2⟩
      · rintro (h | h)
        · exact .inl h
        · exact .inr ⟨by omega, by omega, h.2.2⟩

/-- One value of every mask. -/
def AllIn : List Int → List Int → Prop
  | [], [] => True
  | m :: ms, w :: ws => w ∈ maskVals m ∧ AllIn ms ws
  | _, _ => False
theorem AllIn.len : ∀ {ms ws : List Int}, AllIn ms ws → ws.length = ms.length
  | [], [], _ => rfl
  | _ :: _, _ :: _, h => by simp [AllIn.len h.2]
  | [], _ :: _, h => h.elim
  | _ :: _, [], h => h.elim
theorem AllIn.vals : ∀ {ms ws : List Int}, AllIn ms ws → ∀ w ∈ ws, 1 ≤ w ∧ w ≤ 4
  | [], [], _, w, hw => by cases hw
  | _ :: _, _ :: _, h, w, hw => by
    rcases List.mem_cons.1 hw with e | e
    · rw [e]; exact maskVals_mem h.1
    · exact AllIn.vals h.2 w e
  | [], _ :: _, h, _, _ => h.elim
  | _ :: _, [], h, _, _ => h.elim

theorem ways_has (h : List Int → Bool) : ∀ (ms vals fl : List Int), Vals vals → vals.length + ms.length ≤ 4 → Ms fl → vals.length + ms.length ≤ fl.length → ∀ x v : Nat, x < vals.length + ms.length →
    (has ((ways h ms vals fl).getD x 0) v = true ↔ has (fl.getD x 0) v = true ∨ ∃ ws, AllIn ms ws ∧ h (vals ++ ws) = true ∧ (vals ++ ws).getD x 0 = (v : Int))
  | [], vals, fl, hv, hl4, hf, hl, x, v, hx => by
    simp only [List.length_nil, Nat.add_zero] at hx hl
    have key : (∃ ws, AllIn [] ws ∧ h (vals ++ ws) = true ∧ (vals ++ ws).getD x 0 = (v : Int)) ↔ (h vals = true ∧ vals.getD x 0 = (v : Int)) := by
      constructor
      · rintro ⟨ws, h1, h2, h3⟩
        cases ws with
        | nil => rw [List.append_nil] at h2 h3; exact ⟨h2, h3⟩
        | cons w ws => exact h1.elim
      · rintro ⟨h1, h2⟩
        exact ⟨[], trivial, by rw [List.append_nil]; exact h1, by rw [List.append_nil]; exact h2⟩
    rw [key, ways]
    split
    · rename_i hh
      unfold orAll
      rw [orFrom_has hv vals.length 0 hf (by omega) hl]
      constructor
      · rintro (a | a)
        · exact .inl a
        · exact .inr ⟨hh, a.2.2⟩
      · rintro (a | a)
        · exact .inl a
        · exact .inr ⟨by omega, by omega, a.2⟩
    · rename_i hh
      constructor
      · exact .inl
      · rintro (a | a)
        · exact a
        · exact absurd a.1 hh
  | m :: ms, vals, fl, hv, hl4, hf, hl, x, v, hx => by
    simp only [List.length_cons] at hl4 hl hx
    have key : ∀ (L : List Int) (fl : List Int), (∀ w ∈ L, 1 ≤ w ∧ w ≤ 4) → Ms fl → vals.length + ms.length + 1 ≤ fl.length →
        (has ((L.foldl (fun f v => ways h ms (vals ++ [v]) f) fl).getD x 0) v = true ↔ has (fl.getD x 0) v = true ∨ ∃ w ∈ L, ∃ ws, AllIn ms ws ∧ h (vals ++ w :: ws) = true ∧ (vals ++ w :: ws).getD x 0 = (v : Int)) := by
      intro L
      induction L with
      | nil => intro fl _ _ _; simp
      | cons w L ih =>
        intro fl hL hf hl
        have hw := hL w (by simp)
        have hv1 := hv.app (show vals.length < 4 by omega) (v := w) ⟨by omega, hw.2⟩
        have w1 := ways_ok h ms (vals ++ [w]) fl hv1 (by simp; omega) hf
        have w2 := ways_has h ms (vals ++ [w]) fl hv1 (by simp; omega) hf (by simp; omega) x v (by simp; omega)
        rw [List.foldl_cons, ih _ (fun y hy => hL y (by simp [hy])) w1.1 (by rw [w1.2]; exact hl), w2]
        simp only [List.append_assoc, List.singleton_append]
        constructor
        · rintro ((a | ⟨ws, a⟩) | ⟨y, hy, ws, a⟩)
          · exact .inl a
          · exact .inr ⟨w, by simp, ws, a⟩
          · exact .inr ⟨y, by simp [hy], ws, a⟩
        · rintro (a | ⟨y, hy, ws, a⟩)
          · exact .inl (.inl a)
          · rcases List.mem_cons.1 hy with e | e
            · subst e; exact .inl (.inr ⟨ws, a⟩)
            · exact .inr ⟨y, e, ws, a⟩
    rw [ways, key (maskVals m) fl (fun w hw => maskVals_mem hw) hf (by omega)]
    constructor
    · rintro (a | ⟨w, hw, ws, a1, a2, a3⟩)
      · exact .inl a
      · exact .inr ⟨w :: ws, ⟨hw, a1⟩, a2, a3⟩
    · rintro (a | ⟨ws, a1, a2, a3⟩)
      · exact .inl a
      · cases ws with
        | nil => exact a1.elim
        | cons w ws => exact .inr ⟨w, a1.1, ws, a1.2, a2, a3⟩

theorem has_zero (v : Nat) : has 0 v = false := by unfold has; simp
/-- The masks of a rule: the values that its cells have in some way. -/
theorem ruleMasks_has {kind value : Int} {own : List Int} (hl : own.length ≤ 4) (x v : Nat) (hx : x < own.length) :
    has ((ruleMasksV kind value own).getD x 0) v = true ↔ ∃ ws, AllIn own ws ∧ holdsV kind value ws = true ∧ ws.getD x 0 = (v : Int) := by
  unfold ruleMasksV
  rw [ways_has _ own [] _ ⟨by simp, fun v hv => by cases hv⟩ (by simpa using hl) (Ms.zeros _) (by simp) x v (by simpa using hx)]
  have e : (List.replicate own.length (0 : Int)).getD x 0 = 0 := by simp [List.getD_eq_getElem?_getD, hx]
  rw [e, has_zero]
  simp
theorem ruleMasks_ok {kind value : Int} {own : List Int} (hl : own.length ≤ 4) : Ms (ruleMasksV kind value own) ∧ (ruleMasksV kind value own).length = own.length := by
  have := ways_ok (holdsV kind value) own [] (List.replicate own.length 0) ⟨by simp, fun v hv => by cases hv⟩ (by simpa using hl) (Ms.zeros _)
  exact ⟨this.1, this.2.trans (by simp)⟩
theorem ne_zero_has {m : Int} (hm : M m) : m ≠ 0 ↔ ∃ v : Nat, has m v = true := by
  constructor
  · intro h
    apply Classical.byContradiction
    intro hc
    apply h
    refine m_ext hm ⟨by decide, by decide⟩ fun v _ => ?_
    rw [has_zero]
    cases e : has m v with
    | false => rfl
    | true => exact absurd ⟨v, e⟩ hc
  · rintro ⟨v, hv⟩ e
    rw [e, has_zero] at hv; cases hv
theorem head_getD (l : List Int) : l.headD 0 = l.getD 0 0 := by cases l <;> rfl
theorem canHold_iff {n : Int} {g : List Int} {r : V} (h1 : 1 ≤ r.2.1.length) (h4 : r.2.1.length ≤ 4) : canHoldV n g r = true ↔ ∃ ws, AllIn (ownOf (openOf n g) r.2.1) ws ∧ holdsV r.1 r.2.2 ws = true := by
  unfold canHoldV
  have hl : (ownOf (openOf n g) r.2.1).length = r.2.1.length := by simp [ownOf]
  have ho := ruleMasks_ok (kind := r.1) (value := r.2.2) (own := ownOf (openOf n g) r.2.1) (by omega)
  rw [bne_iff_ne, head_getD, ne_zero_has (ho.1.at 0)]
  constructor
  · rintro ⟨v, hv⟩
    obtain ⟨ws, a, b, _⟩ := (ruleMasks_has (by omega) 0 v (by omega)).1 hv
    exact ⟨ws, a, b⟩
  · rintro ⟨ws, a, b⟩
    have hwl := a.len
    have hw := a.vals _ (mem_getD (show 0 < ws.length by omega))
    refine ⟨(ws.getD 0 0).toNat, (ruleMasks_has (by omega) 0 _ (by omega)).2 ⟨ws, a, b, by omega⟩⟩

theorem tab_mv : ∀ m : Nat, m < 16 → ∀ w : Nat, w < 6 → ((maskVals ((2 * m : Nat) : Int)).contains (w : Int) = (decide (1 ≤ w) && (2 * m).testBit w)) := by decide +kernel
/-- The values of a mask of values. -/
theorem mem_maskVals {m w : Int} (hm : 0 ≤ m ∧ m ≤ 30) (he : m.tmod 2 = 0) : w ∈ maskVals m ↔ (1 ≤ w ∧ w ≤ 4) ∧ has m w.toNat = true := by
  obtain ⟨a, ha⟩ : ∃ a : Nat, m = ((2 * a : Nat) : Int) := ⟨(m / 2).toNat, by rw [Int.tmod_eq_emod_of_nonneg hm.1] at he; omega⟩
  have ha16 : a < 16 := by omega
  by_cases hw : 1 ≤ w ∧ w ≤ 4
  · obtain ⟨b, rfl⟩ := Int.eq_ofNat_of_zero_le (show 0 ≤ w by omega)
    have := tab_mv a ha16 b (by omega)
    rw [← ha] at this
    rw [← List.contains_iff_mem, this]
    have h1 : 1 ≤ b := by omega
    have e : has m ((b : Nat) : Int).toNat = (2 * a).testBit b := by unfold has; rw [ha, Int.toNat_natCast, Int.toNat_natCast]
    rw [e]
    simp [h1, hw]
  · constructor
    · intro h; exact absurd (maskVals_mem h) hw
    · intro h; exact absurd h.1 hw

/-- g' is g with some cells empty. -/
def Le (g' g : List Int) : Prop := g'.length = g.length ∧ ∀ i : Nat, g'.getD i 0 = 0 ∨ g'.getD i 0 = g.getD i 0
theorem Le.refl (g : List Int) : Le g g := ⟨rfl, fun _ => .inr rfl⟩
theorem Le.trans {a b c : List Int} (h : Le a b) (h' : Le b c) : Le a c := ⟨h.1.trans h'.1, fun i => by
  rcases h.2 i with e | e
  · exact .inl e
  · rw [e]; exact h'.2 i⟩
theorem Le.gv {g' g : List Int} (h : Le g' g) (c : Int) : gv g' c = 0 ∨ gv g' c = gv g c := h.2 c.toNat
theorem getD_set {l : List Int} {i j : Nat} {v : Int} : (l.set i v).getD j 0 = if i = j ∧ i < l.length then v else l.getD j 0 := by
  rw [List.getD_eq_getElem?_getD, List.getElem?_set]
  by_cases e : i = j
  · subst e
    by_cases h : i < l.length
    · simp [h]
    · simp [h, List.getD_eq_getElem?_getD, List.getElem?_eq_none (Nat.le_of_not_lt h)]
  · simp [e]
theorem Le.set0 (g : List Int) (i : Nat) : Le (g.set i 0) g := ⟨by simp, fun j => by
  rw [getD_set]; split
  · exact .inl rfl
  · exact .inr rfl⟩

theorem clashL_anti {g' g : List Int} (h : Le g' g) : ∀ (cells s' s : List Int), (∀ v, 0 < v → v ∈ s' → v ∈ s) → clashL g' cells s' = true → clashL g cells s = true
  | [], s', s, _, hc => by cases hc
  | c :: cs, s', s, hs, hc => by
    rw [clashL] at hc ⊢
    rw [Bool.or_eq_true, Bool.and_eq_true, decide_eq_true_eq, List.contains_iff_mem] at hc ⊢
    rcases h.gv c with e | e
    · rcases hc with ⟨a, _⟩ | a
      · omega
      · refine .inr (clashL_anti h cs _ _ (fun v hv hm => ?_) a)
        rw [e] at hm
        rcases List.mem_cons.1 hm with e' | e'
        · omega
        · exact List.mem_cons_of_mem _ (hs v hv e')
    · rw [e] at hc
      rcases hc with ⟨a, b⟩ | a
      · exact .inl ⟨a, hs _ a b⟩
      · refine .inr (clashL_anti h cs _ _ (fun v hv hm => ?_) a)
        rcases List.mem_cons.1 hm with e' | e'
        · rw [e']; exact List.mem_cons_self
        · exact List.mem_cons_of_mem _ (hs v hv e')
theorem clashFrom_anti {g' g : List Int} (h : Le g' g) (n : Int) : ∀ (j line : Nat), clashFrom g' n line j = true → clashFrom g n line j = true
  | 0, _, hc => by cases hc
  | j + 1, line, hc => by
    rw [clashFrom, Bool.or_eq_true] at hc ⊢
    rcases hc with a | a
    · exact .inl (clashL_anti h _ _ _ (fun v _ hm => hm) a)
    · exact .inr (clashFrom_anti h n j (line + 1) a)
theorem clash_anti {g' g : List Int} (h : Le g' g) (n : Int) (hc : clash g n = false) : clash g' n = false := by
  cases e : clash g' n with
  | false => rfl
  | true =>
    have : clash g n = true := clashFrom_anti h n _ _ e
    rw [this] at hc; cases hc
theorem compatFrom_iff (a g : List Int) : ∀ (j i : Nat), compatFrom a g i j = true ↔ ∀ x, i ≤ x → x < i + j → a.getD x 0 > 0 → g.getD x 0 > 0 → g.getD x 0 = a.getD x 0
  | 0, i => by simp [compatFrom]; intro x h1 h2; omega
  | j + 1, i => by
    rw [compatFrom, Bool.and_eq_true, compatFrom_iff a g j (i + 1)]
    simp only [Bool.not_eq_true', Bool.and_eq_false_iff, decide_eq_false_iff_not, bne_eq_false_iff_eq]
    constructor
    · rintro ⟨h1, h2⟩ x hx1 hx2 ha hg
      by_cases e : x = i
      · subst e
        rcases h1 with h1 | h1 | h1
        · omega
        · omega
        · exact h1
      · exact h2 x (by omega) (by omega) ha hg
    · intro h
      refine ⟨?_, fun x h1 h2 => h x (by omega) (by omega)⟩
      by_cases h1 : a.getD i 0 > 0
      · by_cases h2 : g.getD i 0 > 0
        · exact .inr (.inr (h i (by omega) (by omega) h1 h2))
        · exact .inr (.inl h2)
      · exact .inl h1
theorem compatB_iff (a g : List Int) : compatB a g = true ↔ ∀ x, x < g.length → a.getD x 0 > 0 → g.getD x 0 > 0 → g.getD x 0 = a.getD x 0 := by
  unfold compatB
  rw [compatFrom_iff]
  constructor
  · intro h x hx; exact h x (by omega) (by omega)
  · intro h x _ hx; exact h x (by omega)
theorem AllIn.mono : ∀ {ms ms' ws : List Int}, ms.length = ms'.length → (∀ i, i < ms.length → ∀ w, w ∈ maskVals (ms.getD i 0) → w ∈ maskVals (ms'.getD i 0)) → AllIn ms ws → AllIn ms' ws
  | [], [], [], _, _, _ => trivial
  | m :: ms, m' :: ms', w :: ws, hl, hs, h => ⟨hs 0 (by simp) w h.1, AllIn.mono (by simpa using hl) (fun i hi w hw => hs (i + 1) (by simpa using hi) w hw) h.2⟩
  | [], _ :: _, _, hl, _, _ => by simp at hl
  | _ :: _, [], _, hl, _, _ => by simp at hl
  | [], [], _ :: _, _, _, h => h.elim
  | _ :: _, _ :: _, [], _, _, h => h.elim
theorem tab_open : ∀ n : Int, 2 ≤ n ∧ n ≤ 4 → (∀ v : Int, 1 ≤ v ∧ v ≤ n → maskVals (pw v) = [v]) ∧ maskVals (topMask n) = upto n.toNat 1 := by
  intro n hn
  have : n = 2 ∨ n = 3 ∨ n = 4 := by omega
  rcases this with rfl | rfl | rfl
  all_goals
    refine ⟨fun v hv => ?_, by decide⟩
    have : v = 1 ∨ v = 2 ∨ v = 3 ∨ v = 4 := by omega
    rcases this with rfl | rfl | rfl | rfl <;> first | omega | decide
theorem mem_upto : ∀ (j : Nat) (v w : Int), w ∈ upto j v ↔ v ≤ w ∧ w < v + j
  | 0, v, w => by
    constructor
    · intro h; cases h
    · intro h; omega
  | j + 1, v, w => by rw [upto, List.mem_cons, mem_upto j]; push_cast; omega
theorem openOf_at {n : Int} {g : List Int} {i : Nat} (hi : i < g.length) : (openOf n g).getD i 0 = if g.getD i 0 > 0 then pw (g.getD i 0) else topMask n := by
  unfold openOf
  rw [List.getD_eq_getElem?_getD, List.getElem?_map, List.getElem?_eq_getElem hi, List.getD_eq_getElem?_getD (l := g), List.getElem?_eq_getElem hi]; rfl
/-- The values that a cell can have: its own, or any. -/
theorem open_vals {n : Int} {g : List Int} (hg : gridOk g n = true) {i : Nat} (hi : i < g.length) (w : Int) : w ∈ maskVals ((openOf n g).getD i 0) ↔ (1 ≤ w ∧ w ≤ n) ∧ (g.getD i 0 > 0 → w = g.getD i 0) := by
  obtain ⟨hn, h2, h3⟩ := (gridOk_iff g n).1 hg
  have hv := h3 _ (mem_getD hi)
  obtain ⟨t1, t2⟩ := tab_open n hn
  rw [openOf_at hi]
  split
  · rename_i c
    rw [t1 _ ⟨by omega, hv.2⟩]
    simp only [List.mem_singleton]
    constructor
    · intro e; subst e; exact ⟨⟨by omega, hv.2⟩, fun _ => rfl⟩
    · intro h; exact h.2 c
  · rename_i c
    rw [t2, mem_upto]
    constructor
    · intro h; exact ⟨by omega, fun h => absurd h c⟩
    · intro h; omega
theorem canHold_anti {n : Int} {g' g : List Int} (h : Le g' g) (hg : gridOk g n = true) (hg' : gridOk g' n = true) {r : V} (hr : ruleOkV n r = true) (hc : canHoldV n g r = true) : canHoldV n g' r = true := by
  obtain ⟨c1, c2, c3, c4⟩ := ruleOk_cells hr
  have hl := ((gridOk_iff g n).1 hg).2.1
  have hl' := h.1
  rw [canHold_iff c3 c2] at hc ⊢
  obtain ⟨ws, a, b⟩ := hc
  refine ⟨ws, a.mono (by simp [ownOf]) (fun i hi w hw => ?_), b⟩
  have hi' : i < r.2.1.length := by simpa [ownOf] using hi
  have hcc := c1 _ (mem_getD hi')
  have e : ∀ g : List Int, (ownOf (openOf n g) r.2.1).getD i 0 = (openOf n g).getD (r.2.1.getD i 0).toNat 0 := fun g => by
    unfold ownOf
    rw [List.getD_eq_getElem?_getD, List.getElem?_map, List.getElem?_eq_getElem hi', List.getD_eq_getElem?_getD (l := r.2.1), List.getElem?_eq_getElem hi']; rfl
  rw [e] at hw ⊢
  have hlt : (r.2.1.getD i 0).toNat < g.length := by omega
  rw [open_vals hg hlt] at hw
  rw [open_vals hg' (by omega)]
  refine ⟨hw.1, fun h1 => ?_⟩
  rcases h.2 (r.2.1.getD i 0).toNat with e1 | e1
  · omega
  · rw [e1] at h1 ⊢; exact hw.2 h1
theorem grid_le {n : Int} {g' g : List Int} (h : Le g' g) (hg : gridOk g n = true) : gridOk g' n = true := by
  obtain ⟨hn, h2, h3⟩ := (gridOk_iff g n).1 hg
  refine (gridOk_iff g' n).2 ⟨hn, by rw [h.1]; exact h2, fun v hv => ?_⟩
  obtain ⟨i, hi, rfl⟩ := List.getElem_of_mem hv
  have e : g'.getD i 0 = g'[i] := by simp [List.getD_eq_getElem?_getD, hi]
  have hi2 : i < g.length := by rw [← h.1]; exact hi
  have := h3 _ (mem_getD hi2)
  rcases h.2 i with e1 | e1
  · rw [← e, e1]; omega
  · rw [← e, e1]; exact this
theorem fits_anti {n : Int} {given : List Int} {vs : List V} {g' g : List Int} (h : Le g' g) (hg : gridOk g n = true) (hv : vs.all (ruleOkV n) = true) (hc : fitsV n given vs g = true) : fitsV n given vs g' = true := by
  unfold fitsV at hc ⊢
  simp only [Bool.and_eq_true, List.all_eq_true, Bool.not_eq_true'] at hc hv ⊢
  refine ⟨?_, fun r hr => canHold_anti h hg (grid_le h hg) (hv r hr) (hc.2.1 r hr), clash_anti h n hc.2.2⟩
  rw [compatB_iff] at hc ⊢
  intro x hx ha hg1
  rcases h.2 x with e | e
  · omega
  · rw [e] at hg1 ⊢; exact hc.1 x (by rw [← h.1]; exact hx) ha hg1
theorem puzzleFits_anti {n : Int} {given : List Int} {vs : List V} {g' g : List Int} (h : Le g' g) (hc : puzzleFitsV n given vs g = true) : puzzleFitsV n given vs g' = true := by
  unfold puzzleFitsV at hc ⊢
  simp only [Bool.and_eq_true] at hc ⊢
  have hp := hc.1
  unfold puzzleV at hp
  simp only [Bool.and_eq_true] at hp
  exact ⟨hc.1, grid_le h hc.2.1, fits_anti h hc.2.1 hp.2.2 hc.2.2⟩
theorem puzzleFits_norules {n : Int} {given : List Int} {vs : List V} {g : List Int} (hc : puzzleFitsV n given vs g = true) : puzzleFitsV n given [] g = true := by
  unfold puzzleFitsV puzzleV fitsV at *
  simp only [Bool.and_eq_true, List.all_nil, List.length_nil] at *
  exact ⟨⟨hc.1.1, by simp⟩, hc.2.1, hc.2.2.1, trivial, hc.2.2.2.2⟩
theorem puzzleFits_square {n : Int} {given : List Int} {vs : List V} {g : List Int} (hc : puzzleFitsV n given vs g = true) : squareFits g n = true := by
  unfold puzzleFitsV fitsV at hc
  unfold squareFits
  simp only [Bool.and_eq_true] at *
  exact ⟨hc.2.1, hc.2.2.2.2⟩
end Go.Proofs.Ytjikkamhljbipaa.Rp
