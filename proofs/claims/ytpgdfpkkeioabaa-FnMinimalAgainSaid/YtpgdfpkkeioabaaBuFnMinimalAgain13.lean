/- Texts for the row of the law FnMinimalAgain, part 13: the plain machine, the program's functions on it, what they come to. No conditions. -/
import Derived.Test.YtpgdfpkkeioabaaBuFnMinimalAgain12
import Derived.Test.YtpgdfpkkeioabaaBuFnMinimalAgain11
import Derived.Test.YtpgdfpkkeioabaaBuFnMinimalAgain7
/- No solution stands twice; what a puzzle made minimal is. No conditions. -/
set_option linter.unusedVariables false
set_option linter.unusedSimpArgs false
namespace Go.Proofs.Ytpgdfpkkeioabaa.Rp
open Go Go.RowKit Go.Proofs.Ytpgdfpkkeioabaa.Ab

theorem upto_pair : ∀ (j : Nat) (v : Int), (upto j v).Pairwise (fun a b => a ≠ b)
  | 0, v => List.Pairwise.nil
  | j + 1, v => by
    rw [upto]
    refine List.Pairwise.cons (fun w hw => ?_) (upto_pair j (v + 1))
    rw [mem_upto] at hw; omega
theorem sols_nodup {n : Int} {f : List Int → Bool} (hf : ∀ g' g, Le g' g → gridOk g n = true → f g = true → f g' = true) : ∀ (rem : Nat) (g : List Int), rem ≤ g.length → gridOk g n = true → (∀ i, i < g.length - rem → 0 < g.getD i 0) → f g = true → (sols f n.toNat rem g).Nodup := by
  intro rem
  induction rem with
  | zero => intro g hr hg hfu hfg; rw [sols]; simp
  | succ rem ih =>
    intro g hr hg hfu hfg
    have hat : g.length - (rem + 1) < g.length := by omega
    obtain ⟨hn, h2, h3⟩ := (gridOk_iff g n).1 hg
    by_cases c : 0 < g.getD (g.length - (rem + 1)) 0
    · rw [sols, if_pos c]
      refine ih g (by omega) hg (fun i hi => ?_) hfg
      by_cases e : i = g.length - (rem + 1)
      · rw [e]; exact c
      · exact hfu i (by omega)
    · rw [sols, if_neg c]
      have fill : ∀ v, 1 ≤ v ∧ v ≤ n → ∀ i, i < (g.set (g.length - (rem + 1)) v).length - rem → 0 < (g.set (g.length - (rem + 1)) v).getD i 0 := fun v hv1 i hi => by
        rw [List.length_set] at hi
        rw [getD_set]
        split
        · omega
        · rename_i e
          exact hfu i (by omega)
      unfold List.Nodup
      rw [List.pairwise_flatMap]
      constructor
      · intro v hv1
        rw [mem_upto] at hv1
        split
        · rename_i hfv
          exact ih _ (by simp; omega) (grid_set'' hg _ v ⟨by omega, by omega⟩) (fill v (by omega)) hfv
        · exact List.Pairwise.nil
      · refine List.Pairwise.imp_of_mem (fun {a b} ha hb hab x hx y hy => ?_) (upto_pair n.toNat 1)
        rw [mem_upto] at ha hb
        split at hx
        · rename_i hfa
          split at hy
          · rename_i hfb
            have m1 := ((mem_sols hf rem _ (by simp; omega) (grid_set'' hg _ a ⟨by omega, by omega⟩) (fill a (by omega)) hfa x).1 hx).2.1
            have m2 := ((mem_sols hf rem _ (by simp; omega) (grid_set'' hg _ b ⟨by omega, by omega⟩) (fill b (by omega)) hfb y).1 hy).2.1
            intro e
            subst e
            have e1 := m1.2 (g.length - (rem + 1))
            have e2 := m2.2 (g.length - (rem + 1))
            rw [getD_set, if_pos ⟨rfl, hat⟩] at e1 e2
            omega
          · cases hy
        · cases hx
theorem allSols_nodup {n : Int} {given : List Int} {vs : List V} (hp : puzzleV n given vs = true) : (allSols n given vs).Nodup := by
  obtain ⟨hg, hv⟩ := puzzleV_grid hp
  unfold allSols
  by_cases c : puzzleFitsV n given vs given = true
  · rw [if_pos c]
    unfold puzzleFitsV at c
    simp only [Bool.and_eq_true] at c
    exact sols_nodup (fun g' g h1 h2 h3 => fits_anti h1 h2 hv h3) _ _ (Nat.le_refl _) hg (fun i hi => by omega) c.2.2
  · rw [if_neg c]; exact List.nodup_nil
theorem one_of {L : List (List Int)} {x : List Int} (hn : L.Nodup) (hx : x ∈ L) (h : ∀ y ∈ L, y = x) : L = [x] := by
  match L with
  | [] => cases hx
  | [y] => rw [h y (by simp)]
  | y :: z :: L =>
    exfalso
    have e1 := h y (by simp)
    have e2 := h z (by simp)
    have := (List.nodup_cons.1 hn).1
    apply this
    rw [e1, e2]; simp
theorem oneV_iff {n : Int} {g : List Int} {vs : List V} : oneV n g vs = true ↔ ∃ x, allSols n g vs = [x] := by
  unfold oneV
  rw [decide_eq_true_eq, take2_one]
/-- Between two puzzles with one solution there is no other number. -/
theorem one_between {n : Int} {a b c : List Int} {vs : List V} (hab : Le a b) (hbc : Le b c) (hc : puzzleV n c vs = true) (hb : puzzleV n b vs = true) (ha : puzzleV n a vs = true) (h1 : oneV n a vs = true) (h2 : oneV n c vs = true) : oneV n b vs = true := by
  rw [oneV_iff] at h1 h2 ⊢
  obtain ⟨x, ex⟩ := h1
  obtain ⟨y, ey⟩ := h2
  refine ⟨y, one_of (allSols_nodup hb) (sols_le hbc hb hc (by rw [ey]; simp)) fun z hz => ?_⟩
  have m1 : z ∈ allSols n a vs := sols_le hab ha hb hz
  have m2 : y ∈ allSols n a vs := sols_le (hab.trans hbc) ha hc (by rw [ey]; simp)
  rw [ex] at m1 m2
  simp at m1 m2
  rw [m1, m2]
theorem puzzle_le {n : Int} {a b : List Int} {vs : List V} (h : Le a b) (hb : puzzleV n b vs = true) : puzzleV n a vs = true := by
  unfold puzzleV at hb ⊢
  simp only [Bool.and_eq_true] at hb ⊢
  exact ⟨grid_le h hb.1, hb.2⟩
theorem Le.set_both {a b : List Int} (h : Le a b) (i : Nat) : Le (a.set i 0) (b.set i 0) := ⟨by simpa using h.1, fun j => by
  rw [getD_set, getD_set, h.1]
  split
  · exact .inl rfl
  · exact h.2 j⟩
theorem red_iff {n : Int} {g : List Int} {vs : List V} {i : Nat} : redundantV n g vs i = true ↔ puzzleV n g vs = true ∧ i < g.length ∧ 0 < g.getD i 0 ∧ oneV n g vs = true ∧ oneV n (g.set i 0) vs = true := by
  unfold redundantV
  simp only [Bool.and_eq_true, decide_eq_true_eq, Int.toNat_natCast]
  constructor
  · rintro ⟨a, b, c, d, e⟩; exact ⟨a, by omega, c, d, e⟩
  · rintro ⟨a, b, c, d, e⟩; exact ⟨a, by omega, c, d, e⟩
/-- Made minimal: fewer given cells, the one solution, none of the cells passed is spare. -/
theorem minFrom_spec {n : Int} {vs : List V} : ∀ (j i : Nat) (g : List Int), puzzleV n g vs = true → oneV n g vs = true → i + j = g.length → (∀ x, x < i → redundantV n g vs x = false) →
    Le (minFrom n vs g i j) g ∧ oneV n (minFrom n vs g i j) vs = true ∧ (∀ x, x < g.length → redundantV n (minFrom n vs g i j) vs x = false) := by
  intro j
  induction j with
  | zero =>
    intro i g hp ho hl hr
    exact ⟨Le.refl _, ho, fun x hx => hr x (by omega)⟩
  | succ j ih =>
    intro i g hp ho hl hr
    rw [minFrom]
    by_cases c : redundantV n g vs i = true
    · rw [if_pos c]
      obtain ⟨c1, c2, c3, c4, c5⟩ := red_iff.1 c
      have hle : Le (g.set i 0) g := Le.set0 g i
      have hp2 := puzzle_le hle hp
      obtain ⟨q1, q2, q3⟩ := ih (i + 1) (g.set i 0) hp2 c5 (by simp; omega) (fun x hx => by
        rw [Bool.eq_false_iff]
        intro h
        obtain ⟨h1, h2, h3, h4, h5⟩ := red_iff.1 h
        rw [getD_set] at h3
        split at h3
        · omega
        · rename_i e
          have hxi : x < i := by rw [List.length_set] at h2; omega
          have := hr x hxi
          rw [Bool.eq_false_iff] at this
          apply this
          rw [red_iff]
          refine ⟨hp, by omega, h3, ho, ?_⟩
          have l1 : Le ((g.set i 0).set x 0) (g.set x 0) := hle.set_both x
          have l2 : Le (g.set x 0) g := Le.set0 g x
          exact one_between l1 l2 hp (puzzle_le l2 hp) (puzzle_le (l1.trans l2) hp) h5 ho)
      exact ⟨q1.trans hle, q2, fun x hx => q3 x (by simpa using hx)⟩
    · rw [if_neg c]
      refine ih (i + 1) g hp ho (by omega) (fun x hx => ?_)
      by_cases e : x = i
      · subst e; simpa using c
      · exact hr x (by omega)
theorem minFrom_fix {n : Int} {vs : List V} : ∀ (j i : Nat) (g : List Int), (∀ x, i ≤ x → x < i + j → redundantV n g vs x = false) → minFrom n vs g i j = g
  | 0, i, g, _ => rfl
  | j + 1, i, g, h => by
    rw [minFrom, h i (by omega) (by omega), if_neg (by simp)]
    exact minFrom_fix j (i + 1) g fun x h1 h2 => h x (by omega) (by omega)
end Go.Proofs.Ytpgdfpkkeioabaa.Rp
/- The law FnMakeMinimal: true whatever it is given. No conditions. -/
set_option linter.unusedVariables false
set_option linter.unusedSimpArgs false
namespace Go.Proofs.Ytpgdfpkkeioabaa.Rp
open Go Go.RowKit Go.Proofs.Ytpgdfpkkeioabaa.Ab

theorem DrawMakeMinimal_ok {k : Nat} (hk : 2000501 ≤ k) {H : Hp} {s : Sl} {l : List Int} (hs : Reads .u8 H s l) (hb : ∀ x ∈ l, 0 ≤ x ∧ x ≤ 255) : DrawnP H (callF PP orc k spec_DrawMakeMinimal.id [.sl 1 s] H) := by
  obtain ⟨k, rfl⟩ : ∃ q, k = q + 1 := ⟨k - 1, by omega⟩
  rw [spec_DrawMakeMinimal.call]
  obtain ⟨H1, n, gs, ss, given, rs, l', p', H', a1, a2, a3, a4, a5, a6, a7, a8, a9⟩ := open_puzzle (show 2000500 ≤ k by omega) hs hb (x1 := 12) (by omega)
  refine ⟨n, gs, ss, given, rs, H', ?_, a3, a8.base (by omega)⟩
  simp only [spec_DrawMakeMinimal.f, dt, df, bt, bf, nt, nf, Bool.and_self, Bool.not_true, Bool.not_false, cond_true, cond_false, Int.toNat_natCast, Int.toNat_zero, Int.toNat_one, Option.bind_some, wr, AV.toB, AV.toI, AV.toS, if_true, AV.toP, a1, a2, AV.isAgg, AV.cel, List.length_cons, List.length_nil, List.getD_cons_zero, List.getD_cons_succ]
  rfl
theorem minAll_iff {n : Int} {g : List Int} {vs : List V} : ∀ (j i : Nat), (∀ x, i ≤ x → x < i + j → redundantV n g vs x = false) → minAll n g vs i j = true
  | 0, i, _ => rfl
  | j + 1, i, h => by
    rw [minAll, h i (by omega) (by omega)]
    exact minAll_iff j (i + 1) fun x h1 h2 => h x (by omega) (by omega)
theorem Same_l2 {k : Nat} {H : Hp} {a0 b0 : Int} {gs gt s t : Sl} {given g : List Int} (hg : Reads .i64 H gs given) (ht : Reads .i64 H gt g) (hle : Le g given) (hl : g.length ≤ 1000) {res : An}
    (hend : laws_FnMakeMinimal.j4 (callF PP orc k) k a0 gs s b0 gt t H = res) :
    ∀ (j i fuel : Nat), i + j = g.length → j < fuel → laws_FnMakeMinimal.l2 (callF PP orc k) k fuel i a0 gs s b0 gt t H = res := by
  have h1 := hg.len
  have h2 := ht.len
  have h3 := hle.1
  intro j
  induction j with
  | zero =>
    intro i fuel hi hf
    obtain ⟨fuel, rfl⟩ : ∃ q, fuel = q + 1 := ⟨fuel - 1, by omega⟩
    rw [← hend]
    simp (disch := omega) only [laws_FnMakeMinimal.l2, dt, df, bt, bf, nt, nf, Bool.and_self, Bool.not_true, Bool.not_false, cond_true, cond_false, Int.toNat_natCast, Int.toNat_zero, Int.toNat_one, Option.bind_some, wr, AV.toB, AV.toI, AV.toS, if_true]
  | succ j ih =>
    intro i fuel hi hf
    obtain ⟨fuel, rfl⟩ : ∃ q, fuel = q + 1 := ⟨fuel - 1, by omega⟩
    have d1 := ih (i + 1) fuel (by omega) (by omega)
    push_cast at d1
    rw [← d1]
    by_cases c : g.getD i 0 = 0
    · have e : (g.getD i 0 != 0) = false := nf c
      simp (disch := omega) only [laws_FnMakeMinimal.l2, laws_FnMakeMinimal.j3, laws_FnMakeMinimal.j5, dt, df, bt, bf, nt, nf, Bool.and_self, Bool.not_true, Bool.not_false, cond_true, cond_false, Int.toNat_natCast, Int.toNat_zero, Int.toNat_one, Option.bind_some, wr, AV.toB, AV.toI, AV.toS, if_true, rdn ht, e]
    · have e : (g.getD i 0 != 0) = true := nt c
      have e2 : (g.getD i 0 != given.getD i 0) = false := by
        rcases hle.2 i with q | q
        · exact absurd q c
        · exact nf q
      simp (disch := omega) only [laws_FnMakeMinimal.l2, laws_FnMakeMinimal.j3, laws_FnMakeMinimal.j5, dt, df, bt, bf, nt, nf, Bool.and_self, Bool.not_true, Bool.not_false, cond_true, cond_false, Int.toNat_natCast, Int.toNat_zero, Int.toNat_one, Option.bind_some, wr, AV.toB, AV.toI, AV.toS, if_true, rdn ht, rdn hg, e, e2]
theorem minimal_spec {n : Int} {given : List Int} {vs : List V} (h : minimalOk n given vs = true) : puzzleV n given vs = true ∧ puzzleV n (minimalV n given vs) vs = true ∧ Le (minimalV n given vs) given ∧ oneV n (minimalV n given vs) vs = true ∧ (∀ x, x < given.length → redundantV n (minimalV n given vs) vs x = false) ∧ ∃ x, allSols n (minimalV n given vs) vs = [x] ∧ allSols n given vs = [x] := by
  unfold minimalOk at h
  simp only [Bool.and_eq_true] at h
  obtain ⟨h1, h2⟩ := h
  obtain ⟨a, b, c⟩ := minFrom_spec given.length 0 given h1 h2 (by omega) (fun x hx => by omega)
  have hp := puzzle_le a h1
  refine ⟨h1, hp, a, b, c, ?_⟩
  have b' := b
  unfold oneV at b' h2
  rw [decide_eq_true_eq] at b' h2
  exact same_sol a hp h1 b' h2
theorem MakeMinimal_law {k : Nat} (hk : 2000800 ≤ k) {H : Hp} {s : Sl} {l : List Int} (hs : Reads .u8 H s l) (hb : ∀ x ∈ l, 0 ≤ x ∧ x ≤ 255) :
    ∃ H', callF PP orc k laws_FnMakeMinimal.id [.sl 1 s] H = some (.bool true, H') := by
  obtain ⟨k, rfl⟩ : ∃ q, k = q + 1 := ⟨k - 1, by omega⟩
  rw [laws_FnMakeMinimal.call]
  by_cases hbig : (s.len : Int) > 1048576
  · exact ⟨H, by simp only [laws_FnMakeMinimal.f, dt hbig, cond_true]⟩
  · obtain ⟨n, gs, ss, given, rs, H1, a1, a2, a3⟩ := DrawMakeMinimal_ok (show 2000501 ≤ k by omega) hs hb
    have hz := a3.at'
    have hgl2 := hz.gl
    obtain ⟨H2, b1, b2⟩ := implMakeMinimal_ok (show 2000530 ≤ k by omega) hz a3.gn a3.cnm
    obtain ⟨H3, c1, c2⟩ := specMakeMinimal_ok (show 2000300 ≤ k by omega) (hz.pf b1)
    rcases b2 with ⟨e1, b2⟩ | ⟨e1, gt, st, qs, b2, b3, b4, b5, b6⟩
    · rcases c2 with ⟨_, c2⟩ | ⟨e2, _⟩
      · obtain ⟨H4, d1, d2⟩ := alive_ok (show 2000002 ≤ k by omega) H3
        have sm := samePuzzle_ok (show 2000001 ≤ k by omega) (H := H3) (n := 0) (a1 := Sl.none) (b1 := Sl.none) (g := []) (reads_nil rfl) (reads_nil rfl) (by simp) readsR_nil readsR_nil rfl (by simp) (fun r hr => by cases hr)
        refine ⟨H4, ?_⟩
        simp only [laws_FnMakeMinimal.f, laws_FnMakeMinimal.j0, laws_FnMakeMinimal.j1, df hbig, dt, df, bt, bf, nt, nf, Bool.and_self, Bool.not_true, Bool.not_false, cond_true, cond_false, Int.toNat_natCast, Int.toNat_zero, Int.toNat_one, Option.bind_some, wr, AV.toB, AV.toI, AV.toS, if_true, a1, AV.isTup, AV.nth, AV.isAgg, AV.cel, List.length_cons, List.length_nil, List.getD_cons_zero, List.getD_cons_succ, b2, c2, beq_self_eq_true, sm, d1]
      · rw [e1] at e2; cases e2
    · rcases c2 with ⟨e2, _⟩ | ⟨_, gu, su, ps, c2, c3, c4, c5, c6⟩
      · rw [e1] at e2; cases e2
      · obtain ⟨m1, m2, m3, m4, m5, x, m6, m7⟩ := minimal_spec e1
        have hq3 := b3.pf c1
        have hz3 := hz.pf (b1.trans c1)
        have sm := samePuzzle_ok (show 2000001 ≤ k by omega) (n := n) hq3.rg (own_reads c3) hq3.gl hq3.rr c4.reads (by rw [c5, b4]) hq3.rl hq3.rc
        have f1 : firstV n given (rs.map R.val) = some x := by unfold firstV; rw [m7]; rfl
        have f2 : firstV n (minimalV n given (rs.map R.val)) (qs.map R.val) = some x := by unfold firstV; rw [b4, m6]; rfl
        obtain ⟨t1, H5, y1, y2⟩ := implSolveFirst_ok (show 2000510 ≤ k by omega) hz3 a3.gn
        obtain ⟨t2, H6, z1, z2⟩ := implSolveFirst_ok (show 2000510 ≤ k by omega) (hq3.pf y1) b5
        obtain ⟨H7, v1, v2⟩ := implIsMinimal_ok (show 2000530 ≤ k by omega) (hq3.pf (y1.trans z1)) b5 b6
        rcases y2 with ⟨e, _⟩ | ⟨x', e, y2, y3⟩
        · rw [f1] at e; cases e
        rw [f1] at e; cases e
        rcases z2 with ⟨e, _⟩ | ⟨x', e, z2, z3⟩
        · rw [f2] at e; cases e
        rw [f2] at e; cases e
        have hx16 : x.length ≤ 16 := gridOk_len ((mem_allSols m1 x).1 (by rw [m7]; simp)).1
        have hsame := same_ok (show 2000000 ≤ k by omega) (pf_reads (z1.trans v2) y3) (pf_reads v2 z3) (by omega)
        have hlen := m3.1
        have hmin : (minimalOk n (minimalV n given (rs.map R.val)) (qs.map R.val) && minAll n (minimalV n given (rs.map R.val)) (qs.map R.val) 0 (minimalV n given (rs.map R.val)).length) = true := by
          rw [b4, Bool.and_eq_true]
          refine ⟨?_, minAll_iff _ _ fun x _ hx => m5 x (by omega)⟩
          unfold minimalOk; rw [m2, m4]; rfl
        rw [hmin] at v1
        have hj4 : laws_FnMakeMinimal.j4 (callF PP orc k) k n gs ss n gt st H3 = some (.bool true, H7) := by
          simp only [laws_FnMakeMinimal.j4, dt, df, bt, bf, nt, nf, Bool.and_self, Bool.not_true, Bool.not_false, cond_true, cond_false, Int.toNat_natCast, Int.toNat_zero, Int.toNat_one, Option.bind_some, wr, AV.toB, AV.toI, AV.toS, if_true, AV.isTup, AV.nth, List.length_cons, List.length_nil, List.getD_cons_zero, List.getD_cons_succ, y2, z2, v1, hsame]
          rfl
        have hl2 := Same_l2 hz3.rg hq3.rg m3 (by omega) hj4 (minimalV n given (rs.map R.val)).length 0 k (by omega) (by omega)
        simp only [Int.natCast_zero] at hl2
        refine ⟨H7, ?_⟩
        simp only [laws_FnMakeMinimal.f, laws_FnMakeMinimal.j0, laws_FnMakeMinimal.j1, df hbig, dt, df, bt, bf, nt, nf, Bool.and_self, Bool.not_true, Bool.not_false, cond_true, cond_false, Int.toNat_natCast, Int.toNat_zero, Int.toNat_one, Option.bind_some, wr, AV.toB, AV.toI, AV.toS, if_true, a1, AV.isTup, AV.nth, AV.isAgg, AV.cel, List.length_cons, List.length_nil, List.getD_cons_zero, List.getD_cons_succ, b2, c2, beq_self_eq_true, sm, hl2]
end Go.Proofs.Ytpgdfpkkeioabaa.Rp
/- The law FnMinimalAgain: true whatever it is given. No conditions. -/
set_option linter.unusedVariables false
set_option linter.unusedSimpArgs false
namespace Go.Proofs.Ytpgdfpkkeioabaa.Rp
open Go Go.RowKit Go.Proofs.Ytpgdfpkkeioabaa.Ab

theorem MinimalAgain_law {k : Nat} (hk : 2000800 ≤ k) {H : Hp} {s : Sl} {l : List Int} (hs : Reads .u8 H s l) (hb : ∀ x ∈ l, 0 ≤ x ∧ x ≤ 255) :
    ∃ H', callF PP orc k laws_FnMinimalAgain.id [.sl 1 s] H = some (.bool true, H') := by
  obtain ⟨k, rfl⟩ : ∃ q, k = q + 1 := ⟨k - 1, by omega⟩
  rw [laws_FnMinimalAgain.call]
  by_cases hbig : (s.len : Int) > 1048576
  · exact ⟨H, by simp only [laws_FnMinimalAgain.f, dt hbig, cond_true]⟩
  · obtain ⟨n, gs, ss, given, rs, H1, a1, a2, a3⟩ := DrawMakeMinimal_ok (show 2000501 ≤ k by omega) hs hb
    have hz := a3.at'
    have hgl2 := hz.gl
    obtain ⟨H2, b1, b2⟩ := implMakeMinimal_ok (show 2000530 ≤ k by omega) hz a3.gn a3.cnm
    obtain ⟨H3, c1, c2⟩ := specMakeMinimal_ok (show 2000300 ≤ k by omega) (hz.pf b1)
    rcases b2 with ⟨e1, b2⟩ | ⟨e1, gt, st, qs, b2, b3, b4, b5, b6⟩
    · rcases c2 with ⟨_, c2⟩ | ⟨e2, _⟩
      · obtain ⟨H4, d1, d2⟩ := alive_ok (show 2000002 ≤ k by omega) H3
        have sm := samePuzzle_ok (show 2000001 ≤ k by omega) (H := H3) (n := 0) (a1 := Sl.none) (b1 := Sl.none) (g := []) (reads_nil rfl) (reads_nil rfl) (by simp) readsR_nil readsR_nil rfl (by simp) (fun r hr => by cases hr)
        refine ⟨H4, ?_⟩
        simp only [laws_FnMinimalAgain.f, laws_FnMinimalAgain.j0, laws_FnMinimalAgain.j1, df hbig, dt, df, bt, bf, nt, nf, Bool.and_self, Bool.not_true, Bool.not_false, cond_true, cond_false, Int.toNat_natCast, Int.toNat_zero, Int.toNat_one, Option.bind_some, wr, AV.toB, AV.toI, AV.toS, if_true, a1, AV.isTup, AV.nth, AV.isAgg, AV.cel, List.length_cons, List.length_nil, List.getD_cons_zero, List.getD_cons_succ, b2, c2, beq_self_eq_true, sm, d1]
      · rw [e1] at e2; cases e2
    · rcases c2 with ⟨e2, _⟩ | ⟨_, gu, su, ps, c2, c3, c4, c5, c6⟩
      · rw [e1] at e2; cases e2
      · obtain ⟨m1, m2, m3, m4, m5, x, m6, m7⟩ := minimal_spec e1
        have hq3 := b3.pf c1
        have hlen := m3.1
        have sm := samePuzzle_ok (show 2000001 ≤ k by omega) (n := n) hq3.rg (own_reads c3) hq3.gl hq3.rr c4.reads (by rw [c5, b4]) hq3.rl hq3.rc
        obtain ⟨H4, d1, d2⟩ := implMakeMinimal_ok (show 2000530 ≤ k by omega) hq3 b5 b6
        have hok : minimalOk n (minimalV n given (rs.map R.val)) (qs.map R.val) = true := by
          rw [b4]; unfold minimalOk; rw [m2, m4]; rfl
        have hfix : minimalV n (minimalV n given (rs.map R.val)) (qs.map R.val) = minimalV n given (rs.map R.val) := by
          rw [b4]
          exact minFrom_fix _ _ _ fun x _ hx => m5 x (by omega)
        rcases d2 with ⟨e2, _⟩ | ⟨_, g4, s4, ps4, d2, d3, d4, d5, d6⟩
        · rw [hok] at e2; cases e2
        · rw [hfix] at d3
          have hq4 := hq3.pf d1
          have sm2 := samePuzzle_ok (show 2000001 ≤ k by omega) (n := n) d3.rg hq4.rg d3.gl d3.rr hq4.rr (by rw [d4]) d3.rl d3.rc
          refine ⟨H4, ?_⟩
          simp only [laws_FnMinimalAgain.f, laws_FnMinimalAgain.j0, laws_FnMinimalAgain.j1, df hbig, dt, df, bt, bf, nt, nf, Bool.and_self, Bool.not_true, Bool.not_false, cond_true, cond_false, Int.toNat_natCast, Int.toNat_zero, Int.toNat_one, Option.bind_some, wr, AV.toB, AV.toI, AV.toS, if_true, a1, AV.isTup, AV.nth, AV.isAgg, AV.cel, List.length_cons, List.length_nil, List.getD_cons_zero, List.getD_cons_succ, b2, c2, beq_self_eq_true, sm, d2, sm2]
end Go.Proofs.Ytpgdfpkkeioabaa.Rp
