/- Texts for the row of the law FnMasksValid, part 13: the plain machine, the program's functions on it, what they come to. No conditions. -/
import Derived.Test.YtjojhbdghhmeeaaBuFnMasksValid12
import Derived.Test.YtjojhbdghhmeeaaBuFnMasksValid9
import Derived.Test.YtjojhbdghhmeeaaBuFnMasksValid10
import Derived.Test.YtjojhbdghhmeeaaAb
import Derived.Test.YtjojhbdghhmeeaaOr
/- No solution stands twice; what a puzzle made minimal is. No conditions. -/
set_option linter.unusedVariables false
set_option linter.unusedSimpArgs false
namespace Go.Proofs.Ytjojhbdghhmeeaa.Rp
open Go Go.RowKit Go.Proofs.Ytjojhbdghhmeeaa.Ab

theorem upto_pair : ∀ (j : Nat) (v : Int), (upto j v).Pairwise (fun a b => a ≠ b)
  | 0, v => List.Pairwise.nil
  | j + 1, v => by
    rw [upto]
    refine List.Pairwise.cons (fun w hw => ?_) (upto_pair j (v + 1))
    rw [mem_upto] at hw; omega
theorem sols_nodup {n : Int} {f : List Int → Bool} (hf : ∀ g' g, Le g' g → gridOk g n = true → f g = true → f g' = true) : ∀ (rem : Nat) (g : List Int), rem ≤ g.length → gridOk g n = true → (∀ i, i < g.length - rem → 0 < g.getD i 0) → f g = true → (sols f n.toNat rem g).Nodup := by
  intro rem
  induction rem with
  | zero => intro g hr hg hfu hfg; rw [sols]; simp
  | succ rem ih =>
    intro g hr hg hfu hfg
    have hat : g.length - (rem + 1) < g.length := by omega
    obtain ⟨hn, h2, h3⟩ := (gridOk_iff g n).1 hg
    by_cases c : 0 < g.getD (g.length - (rem + 1)) 0
    · rw [sols, if_pos c]
      refine ih g (by omega) hg (fun i hi => ?_) hfg
      by_cases e : i = g.length - (rem + 1)
      · rw [e]; exact c
      · exact hfu i (by omega)
    · rw [sols, if_neg c]
      have fill : ∀ v, 1 ≤ v ∧ v ≤ n → ∀ i, i < (g.set (g.length - (rem + 1)) v).length - rem → 0 < (g.set (g.length - (rem + 1)) v).getD i 0 := fun v hv1 i hi => by
        rw [List.length_set] at hi
        rw [getD_set]
        split
        · omega
        · rename_i e
          exact hfu i (by omega)
      unfold List.Nodup
      rw [List.pairwise_flatMap]
      constructor
      · intro v hv1
        rw [mem_upto] at hv1
        split
        · rename_i hfv
          exact ih _ (by simp; omega) (grid_set'' hg _ v ⟨by omega, by omega⟩) (fill v (by omega)) hfv
        · exact List.Pairwise.nil
      · refine List.Pairwise.imp_of_mem (fun {a b} ha hb hab x hx y hy => ?_) (upto_pair n.toNat 1)
        rw [mem_upto] at ha hb
        split at hx
        · rename_i hfa
          split at hy
          · rename_i hfb
            have m1 := ((mem_sols hf rem _ (by simp; omega) (grid_set'' hg _ a ⟨by omega, by omega⟩) (fill a (by omega)) hfa x).1 hx).2.1
            have m2 := ((mem_sols hf rem _ (by simp; omega) (grid_set'' hg _ b ⟨by omega, by omega⟩) (fill b (by omega)) hfb y).1 hy).2.1
            intro e
            subst e
            have e1 := m1.2 (g.length - (rem + 1))
            have e2 := m2.2 (g.length - (rem + 1))
            rw [getD_set, if_pos ⟨rfl, hat⟩] at e1 e2
            omega
          · cases hy
        · cases hx
theorem allSols_nodup {n : Int} {given : List Int} {vs : List V} (hp : puzzleV n given vs = true) : (allSols n given vs).Nodup := by
  obtain ⟨hg, hv⟩ := puzzleV_grid hp
  unfold allSols
  by_cases c : puzzleFitsV n given vs given = true
  · rw [if_pos c]
    unfold puzzleFitsV at c
    simp only [Bool.and_eq_true] at c
    exact sols_nodup (fun g' g h1 h2 h3 => fits_anti h1 h2 hv h3) _ _ (Nat.le_refl _) hg (fun i hi => by omega) c.2.2
  · rw [if_neg c]; exact List.nodup_nil
theorem one_of {L : List (List Int)} {x : List Int} (hn : L.Nodup) (hx : x ∈ L) (h : ∀ y ∈ L, y = x) : L = [x] := by
  match L with
  | [] => cases hx
  | [y] => rw [h y (by simp)]
  | y :: z :: L =>
    exfalso
    have e1 := h y (by simp)
    have e2 := h z (by simp)
    have := (List.nodup_cons.1 hn).1
    apply this
    rw [e1, e2]; simp
theorem oneV_iff {n : Int} {g : List Int} {vs : List V} : oneV n g vs = true ↔ ∃ x, allSols n g vs = [x] := by
  unfold oneV
  rw [decide_eq_true_eq, take2_one]
/-- Between two puzzles with one solution there is no other number. -/
theorem one_between {n : Int} {a b c : List Int} {vs : List V} (hab : Le a b) (hbc : Le b c) (hc : puzzleV n c vs = true) (hb : puzzleV n b vs = true) (ha : puzzleV n a vs = true) (h1 : oneV n a vs = true) (h2 : oneV n c vs = true) : oneV n b vs = true := by
  rw [oneV_iff] at h1 h2 ⊢
  obtain ⟨x, ex⟩ := h1
  obtain ⟨y, ey⟩ := h2
  refine ⟨y, one_of (allSols_nodup hb) (sols_le hbc hb hc (by rw [ey]; simp)) fun z hz => ?_⟩
  have m1 : z ∈ allSols n a vs := sols_le hab ha hb hz
  have m2 : y ∈ allSols n a vs := sols_le (hab.trans hbc) ha hc (by rw [ey]; simp)
  rw [ex] at m1 m2
  simp at m1 m2
  rw [m1, m2]
theorem puzzle_le {n : Int} {a b : List Int} {vs : List V} (h : Le a b) (hb : puzzleV n b vs = true) : puzzleV n a vs = true := by
  unfold puzzleV at hb ⊢
  simp only [Bool.and_eq_true] at hb ⊢
  exact ⟨grid_le h hb.1, hb.2⟩
theorem Le.set_both {a b : List Int} (h : Le a b) (i : Nat) : Le (a.set i 0) (b.set i 0) := ⟨by simpa using h.1, fun j => by
  rw [getD_set, getD_set, h.1]
  split
  · exact .inl rfl
  · exact h.2 j⟩
theorem red_iff {n : Int} {g : List Int} {vs : List V} {i : Nat} : redundantV n g vs i = true ↔ puzzleV n g vs = true ∧ i < g.length ∧ 0 < g.getD i 0 ∧ oneV n g vs = true ∧ oneV n (g.set i 0) vs = true := by
  unfold redundantV
  simp only [Bool.and_eq_true, decide_eq_true_eq, Int.toNat_natCast]
  constructor
  · rintro ⟨a, b, c, d, e⟩; exact ⟨a, by omega, c, d, e⟩
  · rintro ⟨a, b, c, d, e⟩; exact ⟨a, by omega, c, d, e⟩
/-- Made minimal: fewer given cells, the one solution, none of the cells passed is spare. -/
theorem minFrom_spec {n : Int} {vs : List V} : ∀ (j i : Nat) (g : List Int), puzzleV n g vs = true → oneV n g vs = true → i + j = g.length → (∀ x, x < i → redundantV n g vs x = false) →
    Le (minFrom n vs g i j) g ∧ oneV n (minFrom n vs g i j) vs = true ∧ (∀ x, x < g.length → redundantV n (minFrom n vs g i j) vs x = false) := by
  intro j
  induction j with
  | zero =>
    intro i g hp ho hl hr
    exact ⟨Le.refl _, ho, fun x hx => hr x (by omega)⟩
  | succ j ih =>
    intro i g hp ho hl hr
    rw [minFrom]
    by_cases c : redundantV n g vs i = true
    · rw [if_pos c]
      obtain ⟨c1, c2, c3, c4, c5⟩ := red_iff.1 c
      have hle : Le (g.set i 0) g := Le.set0 g i
      have hp2 := puzzle_le hle hp
      obtain ⟨q1, q2, q3⟩ := ih (i + 1) (g.set i 0) hp2 c5 (by simp; omega) (fun x hx => by
        rw [Bool.eq_false_iff]
        intro h
        obtain ⟨h1, h2, h3, h4, h5⟩ := red_iff.1 h
        rw [getD_set] at h3
        split at h3
        · omega
        · rename_i e
          have hxi : x < i := by rw [List.length_set] at h2; omega
          have := hr x hxi
          rw [Bool.eq_false_iff] at this
          apply this
          rw [red_iff]
          refine ⟨hp, by omega, h3, ho, ?_⟩
          have l1 : Le ((g.set i 0).set x 0) (g.set x 0) := hle.set_both x
          have l2 : Le (g.set x 0) g := Le.set0 g x
          exact one_between l1 l2 hp (puzzle_le l2 hp) (puzzle_le (l1.trans l2) hp) h5 ho)
      exact ⟨q1.trans hle, q2, fun x hx => q3 x (by simpa using hx)⟩
    · rw [if_neg c]
      refine ih (i + 1) g hp ho (by omega) (fun x hx => ?_)
      by_cases e : x = i
      · subst e; simpa using c
      · exact hr x (by omega)
theorem minFrom_fix {n : Int} {vs : List V} : ∀ (j i : Nat) (g : List Int), (∀ x, i ≤ x → x < i + j → redundantV n g vs x = false) → minFrom n vs g i j = g
  | 0, i, g, _ => rfl
  | j + 1, i, g, h => by
    rw [minFrom, h i (by omega) (by omega), if_neg (by simp)]
    exact minFrom_fix j (i + 1) g fun x h1 h2 => h x (by omega) (by omega)
end Go.Proofs.Ytjojhbdghhmeeaa.Rp
/- The solutions in ascending order; they are the squares that solve. No conditions. -/
set_option linter.unusedVariables false
set_option linter.unusedSimpArgs false
namespace Go.Proofs.Ytjojhbdghhmeeaa.Rp
open Go Go.RowKit Go.Proofs.Ytjojhbdghhmeeaa.Ab

/-- The first value that differs is less. -/
def LexLt (x y : List Int) : Prop := ∃ i, (∀ j, j < i → x.getD j 0 = y.getD j 0) ∧ x.getD i 0 < y.getD i 0
theorem LexLt.asymm {x y : List Int} (h : LexLt x y) (h' : LexLt y x) : False := by
  obtain ⟨i, h1, h2⟩ := h
  obtain ⟨j, h3, h4⟩ := h'
  rcases Nat.lt_trichotomy i j with e | e | e
  · have := h3 i e; omega
  · subst e; omega
  · have := h1 j e; omega
theorem sorted_ext : ∀ (A B : List (List Int)), A.Pairwise LexLt → B.Pairwise LexLt → (∀ x, x ∈ A ↔ x ∈ B) → A = B
  | [], [], _, _, _ => rfl
  | [], b :: B, _, _, h => by have := (h b).2 (by simp); cases this
  | a :: A, [], _, _, h => by have := (h a).1 (by simp); cases this
  | a :: A, b :: B, hA, hB, h => by
    have a1 := (List.pairwise_cons.1 hA).1
    have b1 := (List.pairwise_cons.1 hB).1
    have irr : ∀ x : List Int, ¬ LexLt x x := fun x hx => hx.asymm hx
    have e : a = b := by
      rcases List.mem_cons.1 ((h a).1 (by simp)) with e | e
      · exact e
      · rcases List.mem_cons.1 ((h b).2 (by simp)) with e' | e'
        · exact e'.symm
        · exact ((b1 a e).asymm (a1 b e')).elim
    subst e
    congr 1
    refine sorted_ext A B (List.Pairwise.of_cons hA) (List.Pairwise.of_cons hB) fun x => ?_
    constructor
    · intro hx
      rcases List.mem_cons.1 ((h x).1 (List.mem_cons_of_mem _ hx)) with e | e
      · subst e; exact (irr _ (a1 _ hx)).elim
      · exact e
    · intro hx
      rcases List.mem_cons.1 ((h x).2 (List.mem_cons_of_mem _ hx)) with e | e
      · subst e; exact (irr _ (b1 _ hx)).elim
      · exact e
theorem upto_lt : ∀ (j : Nat) (v : Int), (upto j v).Pairwise (fun a b => a < b)
  | 0, v => List.Pairwise.nil
  | j + 1, v => by
    rw [upto]
    refine List.Pairwise.cons (fun w hw => ?_) (upto_lt j (v + 1))
    rw [mem_upto] at hw; omega
theorem sols_lt {n : Int} {f : List Int → Bool} (hf : ∀ g' g, Le g' g → gridOk g n = true → f g = true → f g' = true) : ∀ (rem : Nat) (g : List Int), rem ≤ g.length → gridOk g n = true → (∀ i, i < g.length - rem → 0 < g.getD i 0) → f g = true → (sols f n.toNat rem g).Pairwise LexLt := by
  intro rem
  induction rem with
  | zero => intro g hr hg hfu hfg; rw [sols]; simp
  | succ rem ih =>
    intro g hr hg hfu hfg
    have hat : g.length - (rem + 1) < g.length := by omega
    obtain ⟨hn, h2, h3⟩ := (gridOk_iff g n).1 hg
    by_cases c : 0 < g.getD (g.length - (rem + 1)) 0
    · rw [sols, if_pos c]
      refine ih g (by omega) hg (fun i hi => ?_) hfg
      by_cases e : i = g.length - (rem + 1)
      · rw [e]; exact c
      · exact hfu i (by omega)
    · rw [sols, if_neg c]
      have fill : ∀ v, 1 ≤ v ∧ v ≤ n → ∀ i, i < (g.set (g.length - (rem + 1)) v).length - rem → 0 < (g.set (g.length - (rem + 1)) v).getD i 0 := fun v hv1 i hi => by
        rw [List.length_set] at hi
        rw [getD_set]
        split
        · omega
        · rename_i e
          exact hfu i (by omega)
      rw [List.pairwise_flatMap]
      constructor
      · intro v hv1
        rw [mem_upto] at hv1
        split
        · rename_i hfv
          exact ih _ (by simp; omega) (grid_set'' hg _ v ⟨by omega, by omega⟩) (fill v (by omega)) hfv
        · exact List.Pairwise.nil
      · refine List.Pairwise.imp_of_mem (fun {a b} ha hb hab x hx y hy => ?_) (upto_lt n.toNat 1)
        rw [mem_upto] at ha hb
        split at hx
        · rename_i hfa
          split at hy
          · rename_i hfb
            have m1 := ((mem_sols hf rem _ (by simp; omega) (grid_set'' hg _ a ⟨by omega, by omega⟩) (fill a (by omega)) hfa x).1 hx).2.1
            have m2 := ((mem_sols hf rem _ (by simp; omega) (grid_set'' hg _ b ⟨by omega, by omega⟩) (fill b (by omega)) hfb y).1 hy).2.1
            refine ⟨g.length - (rem + 1), fun j hj => ?_, ?_⟩
            · have p := hfu j hj
              have e1 := m1.2 j
              have e2 := m2.2 j
              rw [getD_set, if_neg (by omega)] at e1 e2
              omega
            · have e1 := m1.2 (g.length - (rem + 1))
              have e2 := m2.2 (g.length - (rem + 1))
              rw [getD_set, if_pos ⟨rfl, hat⟩] at e1 e2
              omega
          · cases hy
        · cases hx
theorem allSols_lt {n : Int} {given : List Int} {vs : List V} (hp : puzzleV n given vs = true) : (allSols n given vs).Pairwise LexLt := by
  obtain ⟨hg, hv⟩ := puzzleV_grid hp
  unfold allSols
  by_cases c : puzzleFitsV n given vs given = true
  · rw [if_pos c]
    unfold puzzleFitsV at c
    simp only [Bool.and_eq_true] at c
    exact sols_lt (fun g' g h1 h2 h3 => fits_anti h1 h2 hv h3) _ _ (Nat.le_refl _) hg (fun i hi => by omega) c.2.2
  · rw [if_neg c]; exact List.Pairwise.nil

theorem zeros_len {n : Int} (hn : 2 ≤ n ∧ n ≤ 4) : ((zeros n).length : Int) = n * n ∧ (zeros n).length = (n * n).toNat ∧ (n * n).toNat ≤ 16 := by
  have : n = 2 ∨ n = 3 ∨ n = 4 := by omega
  rcases this with rfl | rfl | rfl <;> decide
theorem zeros_at (n : Int) (i : Nat) : (zeros n).getD i 0 = 0 := by
  unfold zeros
  rw [List.getD_eq_getElem?_getD, List.getElem?_replicate]
  split <;> rfl
theorem zeros_grid {n : Int} (hn : 2 ≤ n ∧ n ≤ 4) : gridOk (zeros n) n = true := (gridOk_iff _ _).2 ⟨hn, (zeros_len hn).1, fun v hv => by
  have := (List.mem_replicate.1 hv).2; omega⟩
theorem zeros_clash {n : Int} (hn : 2 ≤ n ∧ n ≤ 4) : clash (zeros n) n = false := by
  have : n = 2 ∨ n = 3 ∨ n = 4 := by omega
  rcases this with rfl | rfl | rfl <;> decide
theorem zeros_Le {n : Int} {x : List Int} (hx : gridOk x n = true) : Le (zeros n) x := by
  obtain ⟨hn, h2, _⟩ := (gridOk_iff x n).1 hx
  have := zeros_len hn
  exact ⟨by omega, fun i => .inl (zeros_at n i)⟩
theorem clash_antiB (n : Int) : ∀ g' g, Le g' g → gridOk g n = true → (!clash g n) = true → (!clash g' n) = true := fun g' g h1 _ h3 => by
  rw [Bool.not_eq_true'] at h3 ⊢; exact clash_anti h1 n h3
theorem mem_squares {n : Int} (hn : 2 ≤ n ∧ n ≤ 4) (x : List Int) : x ∈ squares n ↔ gridOk x n = true ∧ full x ∧ clash x n = false := by
  unfold squares
  rw [mem_sols (clash_antiB n) _ _ (by have := zeros_len hn; omega) (zeros_grid hn) (fun i hi => by have := zeros_len hn; omega) (by rw [zeros_clash hn]; rfl) x]
  constructor
  · rintro ⟨a, b, c, d⟩; exact ⟨a, c, by simpa using d⟩
  · rintro ⟨a, c, d⟩; exact ⟨a, zeros_Le a, c, by simpa using d⟩
theorem squares_lt {n : Int} (hn : 2 ≤ n ∧ n ≤ 4) : (squares n).Pairwise LexLt := by
  unfold squares
  exact sols_lt (clash_antiB n) _ _ (by have := zeros_len hn; omega) (zeros_grid hn) (fun i hi => by have := zeros_len hn; omega) (by rw [zeros_clash hn]; rfl)
theorem filled_eq {g : List Int} : filled g = g.length ↔ full g := by
  unfold filled full
  rw [List.countP_eq_length]
  constructor
  · intro h i hi; simpa using h _ (mem_getD hi)
  · intro h v hv
    obtain ⟨i, hi, rfl⟩ := List.getElem_of_mem hv
    have := h i hi
    rw [List.getD_eq_getElem?_getD, List.getElem?_eq_getElem hi] at this
    simpa using this
theorem solved_iff {n : Int} {given : List Int} {vs : List V} (hp : puzzleV n given vs = true) (x : List Int) : puzzleSolvedV n given vs x = true ↔ x ∈ allSols n given vs := by
  rw [mem_allSols hp]
  obtain ⟨hg, _⟩ := puzzleV_grid hp
  unfold puzzleSolvedV puzzleFitsV
  simp only [Bool.and_eq_true, decide_eq_true_eq, hp, true_and, filled_eq]
  constructor
  · rintro ⟨⟨a, b⟩, c⟩
    refine ⟨a, ⟨by have := grid_len_eq hg a; exact this, fun i => ?_⟩, c, b⟩
    unfold fitsV at b
    simp only [Bool.and_eq_true] at b
    have b1 := b.1
    rw [compatB_iff] at b1
    have hl := grid_len_eq hg a
    by_cases hi : i < x.length
    · by_cases h0 : given.getD i 0 = 0
      · exact .inl h0
      · right
        have hv := ((gridOk_iff given n).1 hg).2.2 _ (mem_getD (show i < given.length by omega))
        exact (b1 i hi (by omega) (c i hi)).symm
    · left
      rw [List.getD_eq_getElem?_getD, List.getElem?_eq_none (by omega)]; rfl
  · rintro ⟨a, b, c, d⟩
    exact ⟨⟨a, d⟩, c⟩
theorem sol_square {n : Int} {given : List Int} {vs : List V} (hp : puzzleV n given vs = true) {x : List Int} (hx : x ∈ allSols n given vs) : x ∈ squares n := by
  rw [mem_allSols hp] at hx
  have hn := ((gridOk_iff x n).1 hx.1).1
  rw [mem_squares hn]
  refine ⟨hx.1, hx.2.2.1, ?_⟩
  have := hx.2.2.2
  unfold fitsV at this
  simp only [Bool.and_eq_true, Bool.not_eq_true'] at this
  exact this.2.2
/-- The solutions are the squares that solve, in their order. -/
theorem sols_filter {n : Int} {given : List Int} {vs : List V} (hp : puzzleV n given vs = true) : allSols n given vs = (squares n).filter (puzzleSolvedV n given vs) := by
  have hn := ((gridOk_iff given n).1 (puzzleV_grid hp).1).1
  refine sorted_ext _ _ (allSols_lt hp) ((squares_lt hn).filter _) fun x => ?_
  rw [List.mem_filter, solved_iff hp]
  constructor
  · intro h; exact ⟨sol_square hp h, h⟩
  · intro h; exact h.2
theorem zeros_puzzle {n : Int} (hn : 2 ≤ n ∧ n ≤ 4) : puzzleV n (zeros n) [] = true := by
  unfold puzzleV; rw [zeros_grid hn]; rfl
theorem sols_zeros {n : Int} (hn : 2 ≤ n ∧ n ≤ 4) : allSols n (zeros n) [] = squares n := by
  rw [sols_filter (zeros_puzzle hn)]
  refine List.filter_eq_self.2 fun x hx => ?_
  rw [solved_iff (zeros_puzzle hn), mem_allSols (zeros_puzzle hn)]
  rw [mem_squares hn] at hx
  refine ⟨hx.1, zeros_Le hx.1, hx.2.1, ?_⟩
  unfold fitsV
  rw [hx.2.2]
  simp only [List.all_nil, Bool.not_false, Bool.and_self, Bool.and_true]
  rw [compatB_iff]
  intro i _ h; rw [zeros_at] at h; omega

/-! ### How many squares there are -/
theorem sols_cnt {n : Int} : ∀ (rem : Nat) (g : List Int), g.length = (n * n).toNat → rem ≤ g.length → (∀ i, g.length - rem ≤ i → g.getD i 0 = 0) → (sols (fun g => !clash g n) n.toNat rem g).length = cnt n rem g
  | 0, g, _, _, _ => rfl
  | rem + 1, g, hl, hr, hz => by
    have h0 := hz (g.length - (rem + 1)) (Nat.le_refl _)
    rw [sols, if_neg (by omega), cnt]
    have key : ∀ (j : Nat) (v : Int), ((upto j v).flatMap fun v => if (!clash (g.set (g.length - (rem + 1)) v) n) = true then sols (fun g => !clash g n) n.toNat rem (g.set (g.length - (rem + 1)) v) else []).length = cntV (fun v => if clash (g.set ((n * n).toNat - (rem + 1)) v) n = true then 0 else cnt n rem (g.set ((n * n).toNat - (rem + 1)) v)) j v := by
      intro j
      induction j with
      | zero => intro v; rfl
      | succ j ih =>
        intro v
        rw [upto, List.flatMap_cons, List.length_append, ih, cntV, ← hl]
        congr 1
        cases hc : clash (g.set (g.length - (rem + 1)) v) n with
        | true => simp
        | false =>
          rw [if_pos (by simp), if_neg (by simp)]
          refine sols_cnt rem _ (by simpa using hl) (by simp; omega) fun i hi => ?_
          rw [List.length_set] at hi
          rw [getD_set, if_neg (by omega)]
          exact hz i (by omega)
    exact key _ _
theorem squares_len {n : Int} (hn : 2 ≤ n ∧ n ≤ 4) : (squares n).length ≤ 576 ∧ (n < 4 → (squares n).length ≤ 12) := by
  have hz := zeros_len hn
  unfold squares
  rw [sols_cnt _ _ hz.2.1 (by omega) (fun i _ => zeros_at n i)]
  unfold zeros
  have : n = 2 ∨ n = 3 ∨ n = 4 := by omega
  rcases this with rfl | rfl | rfl
  · have := cnt2; constructor <;> (intros; exact Nat.le_trans (Nat.le_of_eq this) (by omega))
  · have := cnt3; constructor <;> (intros; exact Nat.le_trans (Nat.le_of_eq this) (by omega))
  · have := cnt4; exact ⟨Nat.le_of_eq this, fun h => by omega⟩
theorem squares_pos {n : Int} (hn : 2 ≤ n ∧ n ≤ 4) {x : List Int} (hx : x ∈ squares n) : fullG x n ∧ gridOk x n = true ∧ full x ∧ clash x n = false ∧ x.length ≤ 16 := by
  rw [mem_squares hn] at hx
  obtain ⟨_, h2, h3⟩ := (gridOk_iff x n).1 hx.1
  have := zeros_len hn
  refine ⟨⟨by omega, fun v hv => ?_⟩, hx.1, hx.2.1, hx.2.2, gridOk_len hx.1⟩
  obtain ⟨i, hi, rfl⟩ := List.getElem_of_mem hv
  have p := hx.2.1 i hi
  rw [List.getD_eq_getElem?_getD, List.getElem?_eq_getElem hi] at p
  have p' : 0 < x[i] := by simpa using p
  exact ⟨by omega, (h3 _ (List.getElem_mem hi)).2⟩
end Go.Proofs.Ytjojhbdghhmeeaa.Rp
/- The techniques lose no square; what is left of the masks. No conditions. -/
set_option linter.unusedVariables false
set_option linter.unusedSimpArgs false
namespace Go.Proofs.Ytjojhbdghhmeeaa.Rp
open Go Go.RowKit Go.Proofs.Ytjojhbdghhmeeaa.Ab

theorem nodup_len {α : Type} : ∀ (A B : List α), A.Nodup → (∀ x ∈ A, x ∈ B) → A.length ≤ B.length
  | [], B, _, _ => Nat.zero_le _
  | x :: A, B, hn, h => by
    obtain ⟨s, t, e⟩ := List.append_of_mem (h x (by simp))
    subst e
    have hx := (List.nodup_cons.1 hn).1
    have := nodup_len A (s ++ t) (List.nodup_cons.1 hn).2 fun y hy => by
      have hyx : y ≠ x := fun e => hx (e ▸ hy)
      have := h y (List.mem_cons_of_mem _ hy)
      simp only [List.mem_append, List.mem_cons] at this ⊢
      rcases this with h | h | h
      · exact .inl h
      · exact absurd h hyx
      · exact .inr h
    simp only [List.length_append, List.length_cons] at this ⊢
    omega
theorem len_two : ∀ {L : List Int}, L.length = 2 → ∃ x y, L = [x, y]
  | [x, y], _ => ⟨x, y, rfl⟩
  | [], h => by simp at h
  | [_], h => by simp at h
  | _ :: _ :: _ :: _, h => by simp at h
theorem maskOk_iff {n m : Int} : maskOk n m = true ↔ (0 ≤ m ∧ m ≤ topMask n) ∧ m.tmod 2 = 0 := by
  unfold maskOk
  simp
theorem tab_has0 : ∀ a : Nat, a < 32 → ((a : Int)).tmod 2 = 0 → a.testBit 0 = false := by decide +kernel
/-- The values of a mask are those that are in it. -/
theorem mv_has {n m : Int} (hm : maskOk n m = true) (v : Nat) : has m v = true ↔ (v : Int) ∈ maskVals m := by
  obtain ⟨h1, h2⟩ := maskOk_iff.1 hm
  have ht := topMask_le n
  have hM := maskOk_M hm
  rw [mem_maskVals ⟨h1.1, by omega⟩ h2, Int.toNat_natCast]
  constructor
  · intro h
    refine ⟨?_, h⟩
    by_cases h5 : 5 ≤ v
    · rw [has_big hM h5] at h; cases h
    · by_cases h0 : v = 0
      · subst h0
        obtain ⟨a, rfl, ha⟩ := hM.nat
        unfold has at h
        rw [Int.toNat_natCast, tab_has0 a ha h2] at h; cases h
      · omega
  · intro h; exact h.2
theorem tab_top : ∀ n : Nat, n < 5 → ∀ m : Nat, m < 32 → ∀ w : Nat, w < 5 → (2 ≤ n ∧ (m : Int) ≤ topMask n ∧ n < w) → m.testBit w = false := by decide +kernel
theorem mv_top {n m : Int} (hn : 2 ≤ n ∧ n ≤ 4) (hm : maskOk n m = true) {w : Int} (h : w ∈ maskVals m) : 1 ≤ w ∧ w ≤ n := by
  obtain ⟨h1, h2⟩ := maskOk_iff.1 hm
  have ht := topMask_le n
  have h0 := maskVals_mem h
  refine ⟨h0.1, ?_⟩
  rw [mem_maskVals ⟨h1.1, by omega⟩ h2] at h
  apply Classical.byContradiction
  intro hc
  have hM := maskOk_M hm
  obtain ⟨a, rfl, ha⟩ := hM.nat
  have e := h.2
  unfold has at e
  rw [Int.toNat_natCast, tab_top n.toNat (by omega) a ha w.toNat (by omega) ⟨by omega, by rw [show ((n.toNat : Nat) : Int) = n by omega]; exact h1.2, by omega⟩] at e
  cases e
/-- The values of g are in the masks. -/
def InM (l g : List Int) : Prop := ∀ i, i < g.length → has (l.getD i 0) (g.getD i 0).toNat = true
theorem masks_at {n : Int} {l : List Int} (h : masksOk n l = true) {i : Nat} (hi : i < l.length) : maskOk n (l.getD i 0) = true := (masksOk_iff.1 h).2.1 _ (mem_getD hi)
theorem InM.mem {n : Int} {l g : List Int} (h : InM l g) (hl : masksOk n l = true) (hg : gridOk g n = true) {i : Nat} (hi : i < g.length) : g.getD i 0 ∈ maskVals (l.getD i 0) := by
  have h1 := h i hi
  have e := ((gridOk_iff g n).1 hg).2.1
  have e2 := (masksOk_iff.1 hl).2.2
  rw [mv_has (masks_at hl (show i < l.length by omega))] at h1
  have hv := ((gridOk_iff g n).1 hg).2.2 _ (mem_getD hi)
  rw [show (((g.getD i 0).toNat : Nat) : Int) = g.getD i 0 by omega] at h1
  exact h1
theorem square_len {n : Int} {l g : List Int} (hl : masksOk n l = true) (hg : gridOk g n = true) : g.length = l.length := by
  have e := ((gridOk_iff g n).1 hg).2.1
  have e2 := (masksOk_iff.1 hl).2.2
  omega
/-- No value twice in a line of a square. -/
theorem square_line {n : Int} (hn : 2 ≤ n ∧ n ≤ 4) {g : List Int} (hg : g ∈ squares n) {line i j : Nat} (hl : (line : Int) < 2 * n) (hi : (i : Int) < n) (hj : (j : Int) < n) (hij : i ≠ j) : g.getD (lc n line i) 0 ≠ g.getD (lc n line j) 0 := by
  rw [mem_squares hn] at hg
  obtain ⟨h1, h2, h3⟩ := hg
  have hll : (lineCells n line).length = n.toNat := (line_at hn hl hi).2
  have hnc : ¬ clashL g (lineCells n line) [] = true := fun h => by
    have : clash g n = true := (clashFrom_iff g n _ 0).2 ⟨line, by omega, by omega, h⟩
    rw [h3] at this; cases this
  rw [clashL_iff] at hnc
  have hpos : ∀ i : Nat, (i : Int) < n → 0 < g.getD (lc n line i) 0 := fun i hi => by
    have hm := mem_getD (l := lineCells n line) (i := i) (by omega)
    have := lineCells_mem hm
    have e := ((gridOk_iff g n).1 h1).2.1
    refine h2 _ ?_
    unfold lc; omega
  have e0 : ∀ z : Nat, gv g ((lineCells n line).getD z 0) = g.getD (lc n line z) 0 := fun z => rfl
  intro he
  apply hnc
  rcases Nat.lt_or_gt_of_ne hij with h | h
  · exact ⟨j, by omega, by rw [e0]; exact hpos j hj, .inr ⟨i, h, by rw [e0, e0]; exact he⟩⟩
  · exact ⟨i, by omega, by rw [e0]; exact hpos i hi, .inr ⟨j, h, by rw [e0, e0]; exact he.symm⟩⟩
theorem lc_lt {n : Int} (hn : 2 ≤ n ∧ n ≤ 4) {line i : Nat} (hl : (line : Int) < 2 * n) (hi : (i : Int) < n) : (lc n line i : Int) < n * n ∧ ((lc n line i : Nat) : Int) = (lineCells n line).getD i 0 := by
  have hll : (lineCells n line).length = n.toNat := (line_at hn hl hi).2
  have hm := mem_getD (l := lineCells n line) (i := i) (by omega)
  have := lineCells_mem hm
  unfold lc; omega
/-- Every value stands in every line of a square. -/
theorem line_val {n : Int} (hn : 2 ≤ n ∧ n ≤ 4) {g : List Int} (hg : g ∈ squares n) {line : Nat} (hl : (line : Int) < 2 * n) {v : Int} (hv : 1 ≤ v ∧ v ≤ n) : ∃ i : Nat, (i : Int) < n ∧ g.getD (lc n line i) 0 = v := by
  apply Classical.byContradiction
  intro hc
  have hp := squares_pos hn hg
  have hlen := hp.1.1
  have hz := zeros_len hn
  have hnd : ((List.range n.toNat).map fun i => g.getD (lc n line i) 0).Nodup := by
    unfold List.Nodup
    rw [List.pairwise_map]
    refine List.Pairwise.imp_of_mem (fun {a b} ha hb hab => ?_) (List.nodup_range (n := n.toNat))
    rw [List.mem_range] at ha hb
    exact square_line hn hg hl (by omega) (by omega) hab
  have := nodup_len (v :: ((List.range n.toNat).map fun i => g.getD (lc n line i) 0)) (upto n.toNat 1) (List.nodup_cons.2 ⟨fun h => by
    obtain ⟨i, hi, e⟩ := List.mem_map.1 h
    rw [List.mem_range] at hi
    exact hc ⟨i, by omega, e⟩, hnd⟩) (fun x hx => by
      rw [mem_upto]
      rcases List.mem_cons.1 hx with e | e
      · omega
      · obtain ⟨i, hi, e⟩ := List.mem_map.1 e
        rw [List.mem_range] at hi
        have h1 := lc_lt hn hl (show (i : Int) < n by omega)
        have h2 := hp.1.2 _ (mem_getD (show lc n line i < g.length by omega))
        omega)
  have hul : ∀ (j : Nat) (v : Int), (upto j v).length = j := fun j => by
    induction j with
    | zero => intro v; rfl
    | succ j ih => intro v; rw [upto, List.length_cons, ih]
  rw [hul] at this
  simp at this
  omega

/-! ### Nothing is lost -/
theorem Sub.keeps {l l' g : List Int} {P : Nat → Nat → Prop} (h : Sub l l' P) (hl : g.length = l.length) (hin : InM l g) (hp : ∀ j, j < l.length → ¬ P j (g.getD j 0).toNat) : InM l' g := fun i hi => (h.has i _ (by omega)).2 ⟨hin i hi, hp i (by omega)⟩
theorem singles_sound {n : Int} {l g : List Int} (hl : masksOk n l = true) (hg : g ∈ squares n) (hin : InM l g) {j v : Nat} (hj : j < l.length) (hp : PS n.toNat l j v) : (g.getD j 0).toNat ≠ v := by
  have hn := (masksOk_iff.1 hl).1
  obtain ⟨k, hk, hpe, hs, hv⟩ := hp
  have hq := squares_pos hn hg
  have hlen := square_len hl hq.2.1
  have m1 := hin.mem hl hq.2.1 (show k < g.length by omega)
  rw [mv_has (masks_at hl hk)] at hv
  unfold single at hs
  rw [beq_iff_eq] at hs
  have e : g.getD k 0 = v := by
    obtain ⟨x, ex⟩ := List.length_eq_one_iff.1 hs
    rw [ex, List.mem_singleton] at m1 hv
    omega
  intro hc
  have gj := hq.1.2 _ (mem_getD (show j < g.length by omega))
  have gk := hq.1.2 _ (mem_getD (show k < g.length by omega))
  have hcl : clash g n = true := (clash_iff hn g).2 ⟨j, k, by have := (masksOk_iff.1 hl).2.2; have : n = 2 ∨ n = 3 ∨ n = 4 := by omega
                                                              rcases this with rfl | rfl | rfl <;> simp <;> omega, by have := (masksOk_iff.1 hl).2.2; have : n = 2 ∨ n = 3 ∨ n = 4 := by omega
                                                                                                                      rcases this with rfl | rfl | rfl <;> simp <;> omega, hpe.1, hpe.2, by omega, by omega⟩
  rw [hq.2.2.2.1] at hcl; cases hcl
theorem hidden_sound {n : Int} {l g : List Int} (hl : masksOk n l = true) (hg : g ∈ squares n) (hin : InM l g) {j w : Nat} (hj : j < l.length) (hp : PH n l j w) : (g.getD j 0).toNat ≠ w := by
  have hn := (masksOk_iff.1 hl).1
  obtain ⟨line, v, h1, h2, h3, h4, h5⟩ := hp
  have hq := squares_pos hn hg
  have hlen := square_len hl hq.2.1
  obtain ⟨i, hi, hiv⟩ := line_val hn hg h1 (v := v) ⟨by omega, h3⟩
  have hc := lc_lt hn h1 hi
  have hsz := (masksOk_iff.1 hl).2.2
  have hh := hin (lc n line i) (by omega)
  rw [hiv, Int.toNat_natCast] at hh
  have hm : ((lc n line i : Nat) : Int) ∈ lineHas n l line v := by
    unfold lineHas
    rw [List.mem_filter, hc.2]
    refine ⟨mem_getD (by have := (line_at hn h1 hi).2; omega), ?_⟩
    rw [← hc.2, Int.toNat_natCast]; exact hh
  rw [h4, List.mem_singleton] at hm
  rw [show lc n line i = j by omega] at hiv
  omega
theorem pairs_sound {n : Int} {l g : List Int} (hl : masksOk n l = true) (hg : g ∈ squares n) (hin : InM l g) {c v : Nat} (hj : c < l.length) (hp : PQ n l c v) : (g.getD c 0).toNat ≠ v := by
  have hn := (masksOk_iff.1 hl).1
  obtain ⟨line, i, j, k, h1, h2, h3, h4, h5, h6, h7, h8, h9, h10⟩ := hp
  have hq := squares_pos hn hg
  have hlen := square_len hl hq.2.1
  have hsz := (masksOk_iff.1 hl).2.2
  have ci := lc_lt hn h1 h3
  have cj := lc_lt hn h1 (show (j : Int) < n by omega)
  have mi := hin.mem hl hq.2.1 (show lc n line i < g.length by omega)
  have mj := hin.mem hl hq.2.1 (show lc n line j < g.length by omega)
  rw [← h7] at mj
  rw [mv_has (masks_at hl (by omega))] at h10
  have dij := square_line hn hg h1 h3 (show (j : Int) < n by omega) (by omega)
  have dki := square_line hn hg h1 h4 h3 h5
  have dkj := square_line hn hg h1 h4 (show (j : Int) < n by omega) h6
  unfold two at h8
  rw [beq_iff_eq] at h8
  obtain ⟨x, y, exy⟩ := len_two h8
  rw [exy] at mi mj h10
  simp only [List.mem_cons, List.not_mem_nil, or_false] at mi mj h10
  have gk := hq.1.2 _ (mem_getD (show c < g.length by omega))
  rw [h9] at gk ⊢
  omega
end Go.Proofs.Ytjojhbdghhmeeaa.Rp
/- What is left of masks, round after round. No conditions. -/
set_option linter.unusedVariables false
set_option linter.unusedSimpArgs false
namespace Go.Proofs.Ytjojhbdghhmeeaa.Rp
open Go Go.RowKit Go.Proofs.Ytjojhbdghhmeeaa.Ab

def cntM (m : Int) : Nat := (maskVals m).length
def total : List Int → Nat
  | [] => 0
  | m :: l => cntM m + total l
/-- a has no more values than b. -/
def SubM (a b : List Int) : Prop := a.length = b.length ∧ ∀ i v : Nat, i < b.length → has (a.getD i 0) v = true → has (b.getD i 0) v = true
theorem SubM.refl (a : List Int) : SubM a a := ⟨rfl, fun _ _ _ h => h⟩
theorem SubM.trans {a b c : List Int} (h : SubM a b) (h' : SubM b c) : SubM a c := ⟨h.1.trans h'.1, fun i v hi hv => h'.2 i v hi (h.2 i v (by rw [h'.1]; exact hi) hv)⟩
theorem InM.up {a b g : List Int} (h : InM a g) (hs : SubM a b) (hl : g.length = b.length) : InM b g := fun i hi => hs.2 i _ (by omega) (h i hi)
theorem or_of_sub {a b : Nat} (h : ∀ v : Nat, a.testBit v = true → b.testBit v = true) : a ||| b = b := by
  refine Nat.eq_of_testBit_eq fun v => ?_
  rw [Nat.testBit_or]
  cases e : a.testBit v with
  | false => simp
  | true => rw [h v e]; rfl
theorem tab_cnt : ∀ a : Nat, a < 16 → ∀ b : Nat, b < 16 → (2 * a) ||| (2 * b) = 2 * b → (cntM ((2 * a : Nat) : Int) ≤ cntM ((2 * b : Nat) : Int) ∧ (cntM ((2 * a : Nat) : Int) = cntM ((2 * b : Nat) : Int) → a = b)) := by decide +kernel
theorem tab_even : ∀ a : Nat, a < 32 → ∀ b : Nat, b < 32 → a ||| b = b → ((b : Int)).tmod 2 = 0 → ((a : Int)).tmod 2 = 0 := by decide +kernel
theorem mask_sub {n a b : Int} (ha : M a) (hb : maskOk n b = true) (h : ∀ v : Nat, has a v = true → has b v = true) : maskOk n a = true := by
  obtain ⟨h1, h2⟩ := maskOk_iff.1 hb
  have hM := maskOk_M hb
  obtain ⟨x, rfl, hx⟩ := ha.nat
  obtain ⟨y, rfl, hy⟩ := hM.nat
  have e : x ||| y = y := or_of_sub fun v hv => h v (by unfold has; rw [Int.toNat_natCast]; exact hv)
  have hle : x ≤ y := by rw [← e]; exact Nat.left_le_or
  exact maskOk_iff.2 ⟨⟨by omega, by omega⟩, tab_even x hx y hy e h2⟩
theorem cnt_sub {n a b : Int} (ha : maskOk n a = true) (hb : maskOk n b = true) (h : ∀ v : Nat, has a v = true → has b v = true) : cntM a ≤ cntM b ∧ (cntM a = cntM b → a = b) := by
  obtain ⟨h1, h2⟩ := maskOk_iff.1 ha
  obtain ⟨h3, h4⟩ := maskOk_iff.1 hb
  have ht := topMask_le n
  obtain ⟨x, hx, hx16⟩ : ∃ x : Nat, a = ((2 * x : Nat) : Int) ∧ x < 16 := ⟨(a / 2).toNat, by rw [Int.tmod_eq_emod_of_nonneg h1.1] at h2; omega, by omega⟩
  obtain ⟨y, hy, hy16⟩ : ∃ y : Nat, b = ((2 * y : Nat) : Int) ∧ y < 16 := ⟨(b / 2).toNat, by rw [Int.tmod_eq_emod_of_nonneg h3.1] at h4; omega, by omega⟩
  subst hx; subst hy
  have e : (2 * x) ||| (2 * y) = 2 * y := or_of_sub fun v hv => by
    have := h v (by unfold has; rw [Int.toNat_natCast]; exact hv)
    unfold has at this
    rw [Int.toNat_natCast] at this; exact this
  obtain ⟨q1, q2⟩ := tab_cnt x hx16 y hy16 e
  exact ⟨q1, fun h => by rw [q2 h]⟩
theorem total_sub {n : Int} : ∀ (a b : List Int), (∀ m ∈ a, maskOk n m = true) → (∀ m ∈ b, maskOk n m = true) → SubM a b → total a ≤ total b ∧ (total a = total b → a = b)
  | [], [], _, _, _ => ⟨Nat.le_refl _, fun _ => rfl⟩
  | [], _ :: _, _, _, h => by have := h.1; simp at this
  | _ :: _, [], _, _, h => by have := h.1; simp at this
  | x :: a, y :: b, ha, hb, h => by
    have h0 := cnt_sub (ha x (by simp)) (hb y (by simp)) (fun v hv => by have := h.2 0 v (by simp) (by simpa using hv); simpa using this)
    have ih := total_sub a b (fun m hm => ha m (List.mem_cons_of_mem _ hm)) (fun m hm => hb m (List.mem_cons_of_mem _ hm)) ⟨by have := h.1; simpa using this, fun i v hi hv => by
      have := h.2 (i + 1) v (by simp; omega) (by simpa using hv); simpa using this⟩
    simp only [total]
    refine ⟨by omega, fun he => ?_⟩
    rw [h0.2 (by omega), ih.2 (by omega)]
theorem masks_total {n : Int} {a b : List Int} (ha : masksOk n a = true) (hb : masksOk n b = true) (h : SubM a b) : total a ≤ total b ∧ (a ≠ b → total a < total b) := by
  obtain ⟨h1, h2⟩ := total_sub a b (masksOk_iff.1 ha).2.1 (masksOk_iff.1 hb).2.1 h
  exact ⟨h1, fun hne => by rcases Nat.lt_or_eq_of_le h1 with e | e; exact e; exact absurd (h2 e) hne⟩
theorem Sub.subM {l l' : List Int} {P : Nat → Nat → Prop} (h : Sub l l' P) : SubM l' l := ⟨h.len, fun i v hi hv => ((h.has i v hi).1 hv).1⟩
theorem masks_subM {n : Int} {a b : List Int} (ha : Ms a) (hb : masksOk n b = true) (h : SubM a b) : masksOk n a = true := by
  obtain ⟨h1, h2, h3⟩ := masksOk_iff.1 hb
  refine masksOk_iff.2 ⟨h1, fun m hm => ?_, by rw [h.1]; exact h3⟩
  obtain ⟨i, hi, rfl⟩ := List.getElem_of_mem hm
  have e : a.getD i 0 = a[i] := by simp [List.getD_eq_getElem?_getD, hi]
  have hib : i < b.length := by rw [← h.1]; exact hi
  rw [← e]
  exact mask_sub (ha.at i) (masks_at hb hib) fun v hv => h.2 i v hib hv
theorem Sub.ok {n : Int} {l l' : List Int} {P : Nat → Nat → Prop} (h : Sub l l' P) (hl : masksOk n l = true) : masksOk n l' = true := masks_subM h.ms hl h.subM
theorem cntM_le (m : Int) : cntM m ≤ 4 := by
  unfold cntM maskVals
  split
  · have : ∀ (j v : Nat), (mvFrom m v j).length ≤ j := fun j => by
      induction j with
      | zero => intro v; simp [mvFrom]
      | succ j ih => intro v; rw [mvFrom, List.length_append]; have := ih (v + 1); split <;> simp <;> omega
    exact this 4 1
  · simp
theorem tab_cntn : ∀ n : Nat, n < 5 → ∀ m : Nat, m < 32 → (2 ≤ n ∧ (m : Int) ≤ topMask n) → cntM m ≤ n := by decide +kernel
theorem cntM_n {n m : Int} (hn : 2 ≤ n ∧ n ≤ 4) (h : maskOk n m = true) : cntM m ≤ n.toNat := by
  have hM := maskOk_M h
  obtain ⟨h1, h2⟩ := maskOk_iff.1 h
  obtain ⟨a, rfl, ha⟩ := hM.nat
  exact tab_cntn n.toNat (by omega) a ha ⟨by omega, by rw [show ((n.toNat : Nat) : Int) = n by omega]; exact h1.2⟩
theorem total_n {n : Int} (hn : 2 ≤ n ∧ n ≤ 4) : ∀ (l : List Int), (∀ m ∈ l, maskOk n m = true) → total l ≤ n.toNat * l.length
  | [], _ => by simp [total]
  | m :: l, h => by
    have h0 := cntM_n hn (h m (by simp))
    have ih := total_n hn l fun x hx => h x (List.mem_cons_of_mem _ hx)
    simp only [total, List.length_cons, Nat.mul_succ]
    omega
theorem total_le {n : Int} {l : List Int} (h : masksOk n l = true) : total l ≤ 64 := by
  obtain ⟨hn, h2, h3⟩ := masksOk_iff.1 h
  have := total_n hn l h2
  have hl := masks_len h
  have : n = 2 ∨ n = 3 ∨ n = 4 := by omega
  rcases this with rfl | rfl | rfl <;> simp at * <;> omega

/-! ### Rounds -/
/-- The first technique from t on that changes something. -/
def nextFrom (N : List Int → Int → List Int) (l : List Int) : Nat → Int → Option (Int × List Int)
  | 0, _ => none
  | j + 1, t => if N l t = l then nextFrom N l j (t + 1) else some (t, N l t)
theorem next_none {N : List Int → Int → List Int} {l : List Int} : ∀ (j : Nat) (t : Int), nextFrom N l j t = none ↔ ∀ u, t ≤ u → u < t + j → N l u = l
  | 0, t => by simp [nextFrom]; intro u; omega
  | j + 1, t => by
    rw [nextFrom]
    split
    · rename_i e
      rw [next_none j (t + 1)]
      constructor
      · intro h u h1 h2
        by_cases hu : u = t
        · rw [hu]; exact e
        · exact h u (by omega) (by omega)
      · intro h u h1 h2; exact h u (by omega) (by omega)
    · rename_i e
      constructor
      · intro h; cases h
      · intro h; exact absurd (h t (by omega) (by omega)) e
theorem next_some {N : List Int → Int → List Int} {l : List Int} : ∀ (j : Nat) (t : Int) {u : Int} {l' : List Int}, nextFrom N l j t = some (u, l') → (t ≤ u ∧ u < t + j) ∧ l' = N l u ∧ l' ≠ l ∧ ∀ w, t ≤ w → w < u → N l w = l
  | 0, t, u, l', h => by cases h
  | j + 1, t, u, l', h => by
    rw [nextFrom] at h
    split at h
    · rename_i e
      obtain ⟨h1, h2, h3, h4⟩ := next_some j (t + 1) h
      refine ⟨by omega, h2, h3, fun w hw1 hw2 => ?_⟩
      by_cases hu : w = t
      · rw [hu]; exact e
      · exact h4 w (by omega) hw2
    · rename_i e
      simp only [Option.some.injEq, Prod.mk.injEq] at h
      obtain ⟨rfl, rfl⟩ := h
      exact ⟨by omega, rfl, e, fun w h1 h2 => by omega⟩
/-- Round after round: the technique and the masks after it. -/
def stepsV (N : List Int → Int → List Int) (most : Nat) : Nat → List Int → List (Int × List Int)
  | 0, _ => []
  | F + 1, l => match nextFrom N l most 1 with
    | none => []
    | some (t, l') => (t, l') :: stepsV N most F l'
def lastV : List (Int × List Int) → List Int → List Int
  | [], l => l
  | x :: r, _ => lastV r x.2
/-- Good rounds: masks of the size, no more values than before. -/
def Good (N : List Int → Int → List Int) (n : Int) (most : Nat) : Prop := ∀ l t, masksOk n l = true → 1 ≤ t → t < 1 + (most : Int) → masksOk n (N l t) = true ∧ SubM (N l t) l
theorem next_good {N : List Int → Int → List Int} {n : Int} {most : Nat} (hN : Good N n most) {l : List Int} (hl : masksOk n l = true) {t : Int} {l' : List Int} (h : nextFrom N l most 1 = some (t, l')) : masksOk n l' = true ∧ SubM l' l ∧ total l' < total l := by
  obtain ⟨h1, h2, h3, _⟩ := next_some _ _ h
  obtain ⟨a, b⟩ := hN l t hl h1.1 h1.2
  subst h2
  exact ⟨a, b, (masks_total a hl b).2 h3⟩
theorem steps_fuel {N : List Int → Int → List Int} {n : Int} {most : Nat} (hN : Good N n most) : ∀ (F F' : Nat) (l : List Int), masksOk n l = true → total l < F → total l < F' → stepsV N most F l = stepsV N most F' l
  | 0, _, _, _, h, _ => by omega
  | _ + 1, 0, _, _, _, h => by omega
  | F + 1, F' + 1, l, hl, h, h' => by
    rw [stepsV, stepsV]
    cases e : nextFrom N l most 1 with
    | none => rfl
    | some x =>
      obtain ⟨t, l'⟩ := x
      obtain ⟨a, b, c⟩ := next_good hN hl e
      simp only
      rw [steps_fuel hN F F' l' a (by omega) (by omega)]
/-- All rounds. -/
def runS (N : List Int → Int → List Int) (most : Nat) (l : List Int) : List (Int × List Int) := stepsV N most (total l + 1) l
theorem runS_none {N : List Int → Int → List Int} {most : Nat} {l : List Int} (h : nextFrom N l most 1 = none) : runS N most l = [] := by
  unfold runS; rw [stepsV, h]
theorem runS_some {N : List Int → Int → List Int} {n : Int} {most : Nat} (hN : Good N n most) {l : List Int} (hl : masksOk n l = true) {t : Int} {l' : List Int} (h : nextFrom N l most 1 = some (t, l')) : runS N most l = (t, l') :: runS N most l' := by
  unfold runS
  rw [stepsV, h]
  simp only
  obtain ⟨a, b, c⟩ := next_good hN hl h
  rw [steps_fuel hN _ (total l' + 1) l' a (by omega) (by omega)]
/-- What holds along the rounds. -/
theorem runS_ind {N : List Int → Int → List Int} {n : Int} {most : Nat} (hN : Good N n most) {C : List Int → List (Int × List Int) → Prop} (h0 : ∀ l, masksOk n l = true → nextFrom N l most 1 = none → C l []) (h1 : ∀ l t l', masksOk n l = true → masksOk n l' = true → SubM l' l → total l' < total l → nextFrom N l most 1 = some (t, l') → C l' (runS N most l') → C l ((t, l') :: runS N most l')) :
    ∀ (F : Nat) (l : List Int), masksOk n l = true → total l < F → C l (runS N most l)
  | 0, _, _, h => by omega
  | F + 1, l, hl, h => by
    cases e : nextFrom N l most 1 with
    | none => rw [runS_none e]; exact h0 l hl e
    | some x =>
      obtain ⟨t, l'⟩ := x
      obtain ⟨a, b, c⟩ := next_good hN hl e
      rw [runS_some hN hl e]
      exact h1 l t l' hl a b c e (runS_ind hN h0 h1 F l' a (by omega))
/-- The end of the rounds: nothing changes any more; fewer values; no more rounds than values. -/
theorem run_end {N : List Int → Int → List Int} {n : Int} {most : Nat} (hN : Good N n most) {l : List Int} (hl : masksOk n l = true) : masksOk n (lastV (runS N most l) l) = true ∧ SubM (lastV (runS N most l) l) l ∧ nextFrom N (lastV (runS N most l) l) most 1 = none ∧ (runS N most l).length + total (lastV (runS N most l) l) ≤ total l := by
  refine runS_ind hN (C := fun l r => masksOk n (lastV r l) = true ∧ SubM (lastV r l) l ∧ nextFrom N (lastV r l) most 1 = none ∧ r.length + total (lastV r l) ≤ total l) ?_ ?_ (total l + 1) l hl (by omega)
  · intro l hl e
    exact ⟨hl, SubM.refl l, e, by simp [lastV]⟩
  · intro l t l' hl hl' hs ht e h
    refine ⟨h.1, h.2.1.trans hs, h.2.2.1, ?_⟩
    have := h.2.2.2
    simp only [lastV, List.length_cons]
    omega
end Go.Proofs.Ytjojhbdghhmeeaa.Rp
/- The fourth technique; all techniques: no more values, no solution lost. No conditions. -/
set_option linter.unusedVariables false
set_option linter.unusedSimpArgs false
namespace Go.Proofs.Ytjojhbdghhmeeaa.Rp
open Go Go.RowKit Go.Proofs.Ytjojhbdghhmeeaa.Ab

theorem AllIn_pt : ∀ (ms ws : List Int), AllIn ms ws ↔ ws.length = ms.length ∧ ∀ i, i < ms.length → ws.getD i 0 ∈ maskVals (ms.getD i 0)
  | [], [] => by simp [AllIn]
  | [], w :: ws => by simp [AllIn]
  | m :: ms, [] => by simp [AllIn]
  | m :: ms, w :: ws => by
    show (w ∈ maskVals m ∧ AllIn ms ws) ↔ _
    rw [AllIn_pt ms ws]
    constructor
    · rintro ⟨h1, h2, h3⟩
      refine ⟨by simpa using h2, fun i hi => ?_⟩
      cases i with
      | zero => simpa using h1
      | succ i => simpa using h3 i (by simpa using hi)
    · rintro ⟨h1, h2⟩
      refine ⟨by simpa using h2 0 (by simp), by simpa using h1, fun i hi => ?_⟩
      simpa using h2 (i + 1) (by simpa using hi)
theorem own_len (masks cells : List Int) : (ownOf masks cells).length = cells.length := by simp [ownOf]
theorem own_at {masks cells : List Int} {i : Nat} (hi : i < cells.length) : (ownOf masks cells).getD i 0 = masks.getD (cells.getD i 0).toNat 0 := by
  unfold ownOf
  rw [List.getD_eq_getElem?_getD, List.getElem?_map, List.getElem?_eq_getElem hi, List.getD_eq_getElem?_getD (l := cells), List.getElem?_eq_getElem hi]; rfl
theorem map_at {cells : List Int} {f : Int → Int} {i : Nat} (hi : i < cells.length) : (cells.map f).getD i 0 = f (cells.getD i 0) := by
  rw [List.getD_eq_getElem?_getD, List.getElem?_map, List.getElem?_eq_getElem hi, List.getD_eq_getElem?_getD (l := cells), List.getElem?_eq_getElem hi]; rfl
/-- The cells of a valid rule are different. -/
theorem cells_ne {n : Int} {r : V} (h : ruleOkV n r = true) {a b : Nat} (ha : a < r.2.1.length) (hb : b < r.2.1.length) (hab : a ≠ b) : (r.2.1.getD a 0).toNat ≠ (r.2.1.getD b 0).toNat := by
  obtain ⟨c1, _⟩ := ruleOk_cells h
  unfold ruleOkV ruleOk at h
  rw [Bool.and_eq_true] at h
  have hd : ∀ a b, a < b → b < r.2.1.length → r.2.1.getD a 0 ≠ r.2.1.getD b 0 := fun a b h1 h2 he => by
    have := (cellsOk_at _ _ h.1 b (by omega) (by omega)).2
    rw [← he, ← Bool.not_eq_true, List.contains_iff_mem] at this
    apply this
    have : (r.2.1.take b).getD a 0 = r.2.1.getD a 0 := by
      rw [List.getD_eq_getElem?_getD, List.getElem?_take, if_pos h1, ← List.getD_eq_getElem?_getD]
    rw [← this]
    exact mem_getD (by rw [List.length_take]; omega)
  have p1 := c1 _ (mem_getD ha)
  have p2 := c1 _ (mem_getD hb)
  rcases Nat.lt_or_gt_of_ne hab with e | e
  · have := hd a b e hb; omega
  · have := hd b a e ha; omega
theorem setAll_at {cells found : List Int} : ∀ (j i : Nat) (l : List Int), i + j ≤ cells.length → (∀ a b, a < cells.length → b < cells.length → a ≠ b → (cells.getD a 0).toNat ≠ (cells.getD b 0).toNat) → (∀ a, a < cells.length → (cells.getD a 0).toNat < l.length) →
    (setAll cells l found i j).length = l.length ∧ (∀ u, i ≤ u → u < i + j → (setAll cells l found i j).getD (cells.getD u 0).toNat 0 = found.getD u 0) ∧ (∀ x, (∀ u, i ≤ u → u < i + j → (cells.getD u 0).toNat ≠ x) → (setAll cells l found i j).getD x 0 = l.getD x 0)
  | 0, i, l, _, _, _ => ⟨rfl, fun u h1 h2 => by omega, fun x _ => rfl⟩
  | j + 1, i, l, hi, hd, hl => by
    obtain ⟨a, b, c⟩ := setAll_at (found := found) j (i + 1) (l.set (cells.getD i 0).toNat (found.getD i 0)) (by omega) hd (fun x hx => by rw [List.length_set]; exact hl x hx)
    rw [setAll]
    refine ⟨by rw [a, List.length_set], fun u h1 h2 => ?_, fun x hx => ?_⟩
    · by_cases e : u = i
      · subst e
        rw [c _ (fun w h3 h4 => hd w u (by omega) (by omega) (by omega)), getD_set, if_pos ⟨rfl, hl u (by omega)⟩]
      · exact b u (by omega) (by omega)
    · rw [c x (fun u h1 h2 => hx u (by omega) (by omega)), getD_set, if_neg (fun h => hx i (Nat.le_refl _) (by omega) h.1)]
theorem ruleMasks_S {n : Int} {r : V} {l : List Int} (hr : ruleOkV n r = true) (hl : masksOk n l = true) : ruleMasksS n r.1 r.2.2 r.2.1 l = ruleMasksV r.1 r.2.2 (ownOf l r.2.1) := by
  unfold ruleMasksS
  rw [if_pos ⟨by unfold ruleOkV at hr; rw [hr, decide_eq_true (masksOk_iff.1 hl).1]; rfl, hl⟩]
/-- What a rule takes away. -/
def RS (l : List Int) (r : V) (x v : Nat) : Prop := ∃ u, u < r.2.1.length ∧ (r.2.1.getD u 0).toNat = x ∧ ¬ ∃ ws, AllIn (ownOf l r.2.1) ws ∧ holdsV r.1 r.2.2 ws = true ∧ ws.getD u 0 = (v : Int)
theorem rule_cells {n : Int} {r : V} {l : List Int} (hr : ruleOkV n r = true) (hl : masksOk n l = true) {u : Nat} (hu : u < r.2.1.length) : (r.2.1.getD u 0).toNat < l.length := by
  obtain ⟨c1, _⟩ := ruleOk_cells hr
  have := c1 _ (mem_getD hu)
  have := (masksOk_iff.1 hl).2.2
  omega
theorem ruleStep_sub {n : Int} {r : V} {l : List Int} (hr : ruleOkV n r = true) (hl : masksOk n l = true) : Sub l (ruleStep n l r) (RS l r) := by
  obtain ⟨c1, c2, c3, c4⟩ := ruleOk_cells hr
  have hol := own_len l r.2.1
  have hrm := ruleMasks_ok (kind := r.1) (value := r.2.2) (own := ownOf l r.2.1) (by omega)
  unfold ruleStep
  rw [ruleMasks_S hr hl]
  obtain ⟨s1, s2, s3⟩ := setAll_at (found := ruleMasksV r.1 r.2.2 (ownOf l r.2.1)) r.2.1.length 0 l (by omega) (fun a b ha hb => cells_ne hr ha hb) (fun a ha => rule_cells hr hl ha)
  have hM := masks_M hl
  have at1 : ∀ u, u < r.2.1.length → ∀ v : Nat, has ((setAll r.2.1 l (ruleMasksV r.1 r.2.2 (ownOf l r.2.1)) 0 r.2.1.length).getD (r.2.1.getD u 0).toNat 0) v = true ↔ ∃ ws, AllIn (ownOf l r.2.1) ws ∧ holdsV r.1 r.2.2 ws = true ∧ ws.getD u 0 = (v : Int) := fun u hu v => by
    rw [s2 u (by omega) (by omega)]
    exact ruleMasks_has (by omega) u v (by omega)
  refine ⟨s1, fun m hm => ?_, fun x v hx => ?_⟩
  · obtain ⟨i, hi, rfl⟩ := List.getElem_of_mem hm
    have e : (setAll r.2.1 l (ruleMasksV r.1 r.2.2 (ownOf l r.2.1)) 0 r.2.1.length).getD i 0 = (setAll r.2.1 l (ruleMasksV r.1 r.2.2 (ownOf l r.2.1)) 0 r.2.1.length)[i] := by simp [List.getD_eq_getElem?_getD, hi]
    rw [← e]
    by_cases c : ∃ u, u < r.2.1.length ∧ (r.2.1.getD u 0).toNat = i
    · obtain ⟨u, hu, rfl⟩ := c
      rw [s2 u (by omega) (by omega)]
      exact hrm.1.at u
    · rw [s3 i (fun u _ h2 h3 => c ⟨u, by omega, h3⟩)]
      exact hM.at i
  · by_cases c : ∃ u, u < r.2.1.length ∧ (r.2.1.getD u 0).toNat = x
    · obtain ⟨u, hu, rfl⟩ := c
      rw [at1 u hu v]
      constructor
      · rintro ⟨ws, h1, h2, h3⟩
        have := ((AllIn_pt _ _).1 h1).2 u (by omega)
        rw [own_at hu, h3] at this
        refine ⟨(mv_has (masks_at hl hx) v).2 this, ?_⟩
        rintro ⟨w, hw, he, hn⟩
        have : w = u := by
          apply Classical.byContradiction
          intro hne
          exact cells_ne hr hw hu hne he
        subst this
        exact hn ⟨ws, h1, h2, h3⟩
      · rintro ⟨h1, h2⟩
        apply Classical.byContradiction
        intro h3
        exact h2 ⟨u, hu, rfl, h3⟩
    · rw [s3 x (fun u _ h2 h3 => c ⟨u, by omega, h3⟩)]
      constructor
      · intro h; exact ⟨h, by rintro ⟨u, hu, he, _⟩; exact c ⟨u, hu, he⟩⟩
      · intro h; exact h.1
/-- A solution and a rule. -/
theorem rule_full {n : Int} {g : List Int} (hg : gridOk g n = true) (hf : full g) {r : V} (hr : ruleOkV n r = true) (h : canHoldV n g r = true) : holdsV r.1 r.2.2 (r.2.1.map (gv g)) = true := by
  obtain ⟨c1, c2, c3, c4⟩ := ruleOk_cells hr
  have hl := ((gridOk_iff g n).1 hg).2.1
  rw [canHold_iff c3 c2] at h
  obtain ⟨ws, a, b⟩ := h
  rw [AllIn_pt, own_len] at a
  have : ws = r.2.1.map (gv g) := by
    refine ext_getD (by rw [a.1, List.length_map]) fun i hi => ?_
    have hi2 : i < r.2.1.length := by omega
    have h1 := a.2 i hi2
    have hc := c1 _ (mem_getD hi2)
    rw [own_at hi2, open_vals hg (show (r.2.1.getD i 0).toNat < g.length by omega)] at h1
    rw [map_at hi2]
    exact h1.2 (hf _ (by omega))
  rw [← this]; exact b
theorem rule_sound {n : Int} {r : V} {l g : List Int} (hr : ruleOkV n r = true) (hl : masksOk n l = true) (hg : gridOk g n = true) (hin : InM l g) (hh : holdsV r.1 r.2.2 (r.2.1.map (gv g)) = true) {x : Nat} (hx : x < l.length) : ¬ RS l r x (g.getD x 0).toNat := by
  rintro ⟨u, hu, rfl, hn⟩
  apply hn
  have hlen := square_len hl hg
  refine ⟨r.2.1.map (gv g), ?_, hh, ?_⟩
  · rw [AllIn_pt, own_len]
    refine ⟨by simp, fun i hi => ?_⟩
    rw [map_at hi, own_at hi]
    exact hin.mem hl hg (by rw [hlen]; exact rule_cells hr hl hi)
  · rw [map_at hu]
    have := ((gridOk_iff g n).1 hg).2.2 _ (mem_getD (show (r.2.1.getD u 0).toNat < g.length by omega))
    show g.getD (r.2.1.getD u 0).toNat 0 = _
    omega
theorem rules_fold {n : Int} : ∀ (vs : List V) (l : List Int), (∀ r ∈ vs, ruleOkV n r = true) → masksOk n l = true → masksOk n (vs.foldl (ruleStep n) l) = true ∧ SubM (vs.foldl (ruleStep n) l) l
  | [], l, _, hl => ⟨hl, SubM.refl l⟩
  | r :: vs, l, hv, hl => by
    have h1 := ruleStep_sub (hv r (by simp)) hl
    obtain ⟨a, b⟩ := rules_fold vs (ruleStep n l r) (fun q hq => hv q (List.mem_cons_of_mem _ hq)) (h1.ok hl)
    exact ⟨a, b.trans h1.subM⟩
theorem rules_keep {n : Int} {g : List Int} (hg : gridOk g n = true) : ∀ (vs : List V) (l : List Int), (∀ r ∈ vs, ruleOkV n r = true ∧ holdsV r.1 r.2.2 (r.2.1.map (gv g)) = true) → masksOk n l = true → InM l g → InM (vs.foldl (ruleStep n) l) g
  | [], l, _, _, h => h
  | r :: vs, l, hv, hl, h => by
    have hr := hv r (by simp)
    have h1 := ruleStep_sub hr.1 hl
    exact rules_keep hg vs (ruleStep n l r) (fun q hq => hv q (List.mem_cons_of_mem _ hq)) (h1.ok hl) (h1.keeps (square_len hl hg) h fun x hx => rule_sound hr.1 hl hg h hr.2 hx)

/-! ### All techniques -/
theorem subAll_good {n : Int} {l : List Int} (hl : masksOk n l = true) (P : Nat → Nat → Prop) : masksOk n (subAll l P) = true ∧ SubM (subAll l P) l := ⟨(subAll_ok (masks_M hl) P).ok hl, (subAll_ok (masks_M hl) P).subM⟩
theorem singlesV_good {n : Int} {l : List Int} (hl : masksOk n l = true) : masksOk n (singlesV n l) = true ∧ SubM (singlesV n l) l := by
  unfold singlesV; rw [if_pos hl]; exact subAll_good hl _
theorem hiddenV_good {n : Int} {l : List Int} (hl : masksOk n l = true) : masksOk n (hiddenV n l) = true ∧ SubM (hiddenV n l) l := by
  unfold hiddenV; rw [if_pos hl]; exact subAll_good hl _
theorem pairsV_good {n : Int} {l : List Int} (hl : masksOk n l = true) : masksOk n (pairsV n l) = true ∧ SubM (pairsV n l) l := by
  unfold pairsV; rw [if_pos hl]; exact subAll_good hl _
theorem puzzleV_rules {n : Int} {given : List Int} {vs : List V} (hp : puzzleV n given vs = true) : ∀ r ∈ vs, ruleOkV n r = true := List.all_eq_true.1 (puzzleV_grid hp).2
theorem rulesV_good {n : Int} {given : List Int} {vs : List V} (hp : puzzleV n given vs = true) {l : List Int} (hl : masksOk n l = true) : masksOk n (rulesV n given vs l) = true ∧ SubM (rulesV n given vs l) l := by
  unfold rulesV; rw [if_pos ⟨hp, hl⟩]; exact rules_fold vs l (puzzleV_rules hp) hl
theorem singlesV_keeps {n : Int} {l g : List Int} (hl : masksOk n l = true) (hg : g ∈ squares n) (h : InM l g) : InM (singlesV n l) g := by
  unfold singlesV; rw [if_pos hl]
  exact (subAll_ok (masks_M hl) _).keeps (square_len hl (squares_pos (masksOk_iff.1 hl).1 hg).2.1) h fun j hj hp => singles_sound hl hg h hj hp rfl
theorem hiddenV_keeps {n : Int} {l g : List Int} (hl : masksOk n l = true) (hg : g ∈ squares n) (h : InM l g) : InM (hiddenV n l) g := by
  unfold hiddenV; rw [if_pos hl]
  exact (subAll_ok (masks_M hl) _).keeps (square_len hl (squares_pos (masksOk_iff.1 hl).1 hg).2.1) h fun j hj hp => hidden_sound hl hg h hj hp rfl
theorem pairsV_keeps {n : Int} {l g : List Int} (hl : masksOk n l = true) (hg : g ∈ squares n) (h : InM l g) : InM (pairsV n l) g := by
  unfold pairsV; rw [if_pos hl]
  exact (subAll_ok (masks_M hl) _).keeps (square_len hl (squares_pos (masksOk_iff.1 hl).1 hg).2.1) h fun j hj hp => pairs_sound hl hg h hj hp rfl
theorem sol_rules {n : Int} {given : List Int} {vs : List V} (hp : puzzleV n given vs = true) {g : List Int} (hg : g ∈ allSols n given vs) : ∀ r ∈ vs, ruleOkV n r = true ∧ holdsV r.1 r.2.2 (r.2.1.map (gv g)) = true := fun r hr => by
  have hok := puzzleV_rules hp r hr
  rw [mem_allSols hp] at hg
  refine ⟨hok, rule_full hg.1 hg.2.2.1 hok ?_⟩
  have := hg.2.2.2
  unfold fitsV at this
  simp only [Bool.and_eq_true] at this
  exact List.all_eq_true.1 this.2.1 r hr
theorem rulesV_keeps {n : Int} {given : List Int} {vs : List V} (hp : puzzleV n given vs = true) {l g : List Int} (hl : masksOk n l = true) (hg : g ∈ allSols n given vs) (h : InM l g) : InM (rulesV n given vs l) g := by
  unfold rulesV; rw [if_pos ⟨hp, hl⟩]
  exact rules_keep (squares_pos (masksOk_iff.1 hl).1 (sol_square hp hg)).2.1 vs l (sol_rules hp hg) hl h
theorem narrowV_cases {n : Int} {given : List Int} {vs : List V} (hp : puzzleV n given vs = true) {l : List Int} (hl : masksOk n l = true) : narrowV n given vs l 1 = singlesV n l ∧ narrowV n given vs l 2 = hiddenV n l ∧ narrowV n given vs l 3 = pairsV n l ∧ narrowV n given vs l 4 = rulesV n given vs l := by
  refine ⟨?_, ?_, ?_, ?_⟩ <;> (unfold narrowV; rw [if_pos ⟨hp, hl⟩]; simp)
theorem narrow_good {n : Int} {given : List Int} {vs : List V} (hp : puzzleV n given vs = true) {most : Nat} (hm : most ≤ 4) : Good (narrowV n given vs) n most := fun l t hl h1 h2 => by
  obtain ⟨c1, c2, c3, c4⟩ := narrowV_cases hp hl
  have : t = 1 ∨ t = 2 ∨ t = 3 ∨ t = 4 := by omega
  rcases this with rfl | rfl | rfl | rfl
  · rw [c1]; exact singlesV_good hl
  · rw [c2]; exact hiddenV_good hl
  · rw [c3]; exact pairsV_good hl
  · rw [c4]; exact rulesV_good hp hl
theorem narrow_keeps {n : Int} {given : List Int} {vs : List V} (hp : puzzleV n given vs = true) {l g : List Int} (hl : masksOk n l = true) (hg : g ∈ allSols n given vs) (h : InM l g) {t : Int} (h1 : 1 ≤ t) (h2 : t ≤ 4) : InM (narrowV n given vs l t) g := by
  obtain ⟨c1, c2, c3, c4⟩ := narrowV_cases hp hl
  have hs := sol_square hp hg
  have : t = 1 ∨ t = 2 ∨ t = 3 ∨ t = 4 := by omega
  rcases this with rfl | rfl | rfl | rfl
  · rw [c1]; exact singlesV_keeps hl hs h
  · rw [c2]; exact hiddenV_keeps hl hs h
  · rw [c3]; exact pairsV_keeps hl hs h
  · rw [c4]; exact rulesV_keeps hp hl hg h
/-- No solution is lost, round after round. -/
theorem run_keeps {n : Int} {given : List Int} {vs : List V} (hp : puzzleV n given vs = true) {most : Nat} (hm : most ≤ 4) {g : List Int} (hg : g ∈ allSols n given vs) {l : List Int} (hl : masksOk n l = true) : InM l g → InM (lastV (runS (narrowV n given vs) most l) l) g := by
  refine runS_ind (narrow_good hp hm) (C := fun l r => InM l g → InM (lastV r l) g) ?_ ?_ (total l + 1) l hl (by omega)
  · intro l hl e h; exact h
  · intro l t l' hl hl' hs ht e ih h
    obtain ⟨h1, h2, _⟩ := next_some _ _ e
    refine ih ?_
    rw [h2]
    exact narrow_keeps hp hl hg h h1.1 (by omega)
end Go.Proofs.Ytjojhbdghhmeeaa.Rp
/- Functions of the program as plain Lean functions. No conditions. -/
set_option linter.unusedVariables false
set_option linter.unusedSimpArgs false
set_option maxRecDepth 100000
namespace Go.Proofs.Ytjojhbdghhmeeaa.Rp
open Go Go.Proofs.Ytjojhbdghhmeeaa.Ab
noncomputable def spec_NarrowRules.body : Code := (Go.Proofs.Try.f106).body.getD .skip
noncomputable def spec_NarrowRules.j4 (rec : Rec) (k : Nat) (x5 : Sl) (H : Hp) : An := some (.sl 1 x5, H)
noncomputable def spec_NarrowRules.j5 (rec : Rec) (k : Nat) (L2 : Sl → Int → Int → Sl → Sl → Hp → An) (x5 : Sl) (x6 : Int) (y2_0 : Int) (y2_1 : Sl) (y2_2 : Sl) (H : Hp) : An := L2 x5 (IntKind.i64.wrap (x6 + 1)) y2_0 y2_1 y2_2 H
noncomputable def spec_NarrowRules.l3 (rec : Rec) (k : Nat) (L2 : Sl → Int → Int → Sl → Sl → Hp → An) : Nat → Sl → Int → Sl → Int → Int → Sl → Sl → Int → Sl → Int → Hp → An
  | 0, _, _, _, _, _, _, _, _, _, _, _ => none
  | n + 1, x5, x6, x8, x9, y2_0, y2_1, y2_2, y7_0, y7_1, y7_2, H => bif decide (x9 < (y7_1.len : Int)) then bif decide (0 ≤ (x9 : Int)) && decide ((x9 : Int) < y7_1.len) then (ldI .i64 H y7_1.blk (y7_1.off + (x9 : Int).toNat * 1)).bind fun n12 => bif decide (0 ≤ (x9 : Int)) && decide ((x9 : Int) < x8.len) then (ldI .i64 H x8.blk (x8.off + (x9 : Int).toNat * 1)).bind fun n13 => bif decide (0 ≤ (n12 : Int)) && decide ((n12 : Int) < x5.len) then (H.sto x5.blk (x5.off + (n12 : Int).toNat * 1) [.int .i64 n13]).bind fun H14 => (spec_NarrowRules.l3 rec k L2 n) x5 x6 x8 (IntKind.i64.wrap (x9 + 1)) y2_0 y2_1 y2_2 y7_0 y7_1 y7_2 H14 else none else none else none else spec_NarrowRules.j5 rec k L2 x5 x6 y2_0 y2_1 y2_2 H
noncomputable def spec_NarrowRules.l2 (rec : Rec) (k : Nat) : Nat → Sl → Int → Int → Sl → Sl → Hp → An
  | 0, _, _, _, _, _, _ => none
  | n + 1, x5, x6, y2_0, y2_1, y2_2, H => bif decide (x6 < (y2_2.len : Int)) then bif decide (0 ≤ (x6 : Int)) && decide ((x6 : Int) < y2_2.len) then (ldI .i64 H y2_2.blk (y2_2.off + (x6 : Int).toNat * 3)).bind fun n7 => (ldS 1 H y2_2.blk (y2_2.off + (x6 : Int).toNat * 3 + 1)).bind fun s8 => (ldI .i64 H y2_2.blk (y2_2.off + (x6 : Int).toNat * 3 + 1 + 1)).bind fun n9 => (rec spec_RuleMasks.id [.agg [.int .i64 n7, .sl 1 s8, .int .i64 n9], .sl 1 x5, .int .i64 y2_0] H).bind fun r10 => (r10.1.toS 1).bind fun s11 => spec_NarrowRules.l3 rec k (spec_NarrowRules.l2 rec k n) k x5 x6 s11 0 y2_0 y2_1 y2_2 n7 s8 n9 r10.2 else none else spec_NarrowRules.j4 rec k x5 H
noncomputable def spec_NarrowRules.j1 (rec : Rec) (k : Nat) (x1 : Sl) (y2_0 : Int) (y2_1 : Sl) (y2_2 : Sl) (H : Hp) : An := (rec spec_l6Copy.id [.sl 1 x1] H).bind fun r5 => (r5.1.toS 1).bind fun s6 => spec_NarrowRules.l2 rec k k s6 0 y2_0 y2_1 y2_2 r5.2
noncomputable def spec_NarrowRules.j0 (rec : Rec) (k : Nat) (x1 : Sl) (x19 : Bool) (y2_0 : Int) (y2_1 : Sl) (y2_2 : Sl) (H : Hp) : An := bif x19 then some (.sl 1 (Sl.mk false H.length 0 0), H ++ [some (Blk.mk false [])]) else spec_NarrowRules.j1 rec k x1 y2_0 y2_1 y2_2 H
noncomputable def spec_NarrowRules.f (rec : Rec) (k : Nat) (a0_0 : Int) (a0_1 : Sl) (a0_2 : Sl) (a1 : Sl) (H : Hp) : An := (rec spec_PuzzleValid.id [.agg [.int .i64 a0_0, .sl 1 a0_1, .sl 3 a0_2]] H).bind fun r1 => r1.1.toB.bind fun b2 => bif !b2 then spec_NarrowRules.j0 rec k a1 true a0_0 a0_1 a0_2 r1.2 else (rec spec_MasksValid.id [.sl 1 a1, .int .i64 a0_0] r1.2).bind fun r3 => r3.1.toB.bind fun b4 => spec_NarrowRules.j0 rec k a1 (!b4) a0_0 a0_1 a0_2 r3.2
theorem spec_NarrowRules.j4_eq (rec : Rec) (k : Nat) : ∀ x5 H, spec_NarrowRules.j4 rec k x5 H = ex PP (orc spec_NarrowRules.id) rec k (sub spec_NarrowRules.body [1, 1, 1, 1]) (St.of 59 [(5, .sl 1 x5)] []) H (kAt PP (orc spec_NarrowRules.id) rec k spec_NarrowRules.body [1, 1, 1, 1] [] (K0 PP Go.Proofs.Try.f106)) := by
  intros x5 H
  unfold spec_NarrowRules.j4
  kernel_rfl
theorem spec_NarrowRules.j5_eq (rec : Rec) (k : Nat) (n2 : Nat) (L2 : Sl → Int → Int → Sl → Sl → Hp → An) (hL2 : ∀ x5 x6 y2_0 y2_1 y2_2 H, L2 x5 x6 y2_0 y2_1 y2_2 H = iter ((orc spec_NarrowRules.id).at (lbody (sub spec_NarrowRules.body [1, 1, 1, 0, 1, 0]))) (ex PP (orc spec_NarrowRules.id) rec k (lbody (sub spec_NarrowRules.body [1, 1, 1, 0, 1, 0]))) (kAt PP (orc spec_NarrowRules.id) rec k spec_NarrowRules.body [1, 1, 1, 0, 1, 0] [] (K0 PP Go.Proofs.Try.f106)) n2 (St.of 59 [(2, .lp 2 0), (5, .sl 1 x5), (6, .int .i64 x6)] [(2, [.int .i64 y2_0, .sl 1 y2_1, .sl 3 y2_2])]) H) : ∀ x5 x6 y2_0 y2_1 y2_2 H, spec_NarrowRules.j5 rec k L2 x5 x6 y2_0 y2_1 y2_2 H = ex PP (orc spec_NarrowRules.id) rec k (sub spec_NarrowRules.body [1, 1, 1, 0, 1, 0, 0, 1, 1]) (St.of 59 [(2, .lp 2 0), (5, .sl 1 x5), (6, .int .i64 x6)] [(2, [.int .i64 y2_0, .sl 1 y2_1, .sl 3 y2_2])]) H (kAt PP (orc spec_NarrowRules.id) rec k spec_NarrowRules.body [1, 1, 1, 0, 1, 0, 0, 1, 1] [n2] (K0 PP Go.Proofs.Try.f106)) := by
  intros x5 x6 y2_0 y2_1 y2_2 H
  unfold spec_NarrowRules.j5
  try simp only [hL2, -eq_self]
  kernel_rfl
theorem spec_NarrowRules.l3_eq (rec : Rec) (k : Nat) (n2 : Nat) (L2 : Sl → Int → Int → Sl → Sl → Hp → An) (hL2 : ∀ x5 x6 y2_0 y2_1 y2_2 H, L2 x5 x6 y2_0 y2_1 y2_2 H = iter ((orc spec_NarrowRules.id).at (lbody (sub spec_NarrowRules.body [1, 1, 1, 0, 1, 0]))) (ex PP (orc spec_NarrowRules.id) rec k (lbody (sub spec_NarrowRules.body [1, 1, 1, 0, 1, 0]))) (kAt PP (orc spec_NarrowRules.id) rec k spec_NarrowRules.body [1, 1, 1, 0, 1, 0] [] (K0 PP Go.Proofs.Try.f106)) n2 (St.of 59 [(2, .lp 2 0), (5, .sl 1 x5), (6, .int .i64 x6)] [(2, [.int .i64 y2_0, .sl 1 y2_1, .sl 3 y2_2])]) H) : ∀ n x5 x6 x8 x9 y2_0 y2_1 y2_2 y7_0 y7_1 y7_2 H, spec_NarrowRules.l3 rec k L2 n x5 x6 x8 x9 y2_0 y2_1 y2_2 y7_0 y7_1 y7_2 H = iter ((orc spec_NarrowRules.id).at (lbody (sub spec_NarrowRules.body [1, 1, 1, 0, 1, 0, 0, 1, 0, 0, 1, 1, 1, 0]))) (ex PP (orc spec_NarrowRules.id) rec k (lbody (sub spec_NarrowRules.body [1, 1, 1, 0, 1, 0, 0, 1, 0, 0, 1, 1, 1, 0]))) (kAt PP (orc spec_NarrowRules.id) rec k spec_NarrowRules.body [1, 1, 1, 0, 1, 0, 0, 1, 0, 0, 1, 1, 1, 0] [n2] (K0 PP Go.Proofs.Try.f106)) n (St.of 59 [(2, .lp 2 0), (5, .sl 1 x5), (6, .int .i64 x6), (7, .lp 7 0), (8, .sl 1 x8), (9, .int .i64 x9)] [(2, [.int .i64 y2_0, .sl 1 y2_1, .sl 3 y2_2]), (7, [.int .i64 y7_0, .sl 1 y7_1, .int .i64 y7_2])]) H := by
  intro n
  induction n with
  | zero => intros; rfl
  | succ n ih =>
    intros x5 x6 x8 x9 y2_0 y2_1 y2_2 y7_0 y7_1 y7_2 H
    simp only [spec_NarrowRules.l3, hL2, spec_NarrowRules.j5_eq rec k n2 L2 hL2, ih, -eq_self]
    kernel_rfl
theorem spec_NarrowRules.l2_eq (rec : Rec) (k : Nat) : ∀ n x5 x6 y2_0 y2_1 y2_2 H, spec_NarrowRules.l2 rec k n x5 x6 y2_0 y2_1 y2_2 H = iter ((orc spec_NarrowRules.id).at (lbody (sub spec_NarrowRules.body [1, 1, 1, 0, 1, 0]))) (ex PP (orc spec_NarrowRules.id) rec k (lbody (sub spec_NarrowRules.body [1, 1, 1, 0, 1, 0]))) (kAt PP (orc spec_NarrowRules.id) rec k spec_NarrowRules.body [1, 1, 1, 0, 1, 0] [] (K0 PP Go.Proofs.Try.f106)) n (St.of 59 [(2, .lp 2 0), (5, .sl 1 x5), (6, .int .i64 x6)] [(2, [.int .i64 y2_0, .sl 1 y2_1, .sl 3 y2_2])]) H := by
  intro n
  induction n with
  | zero => intros; rfl
  | succ n ih =>
    intros x5 x6 y2_0 y2_1 y2_2 H
    simp only [spec_NarrowRules.l2, spec_NarrowRules.l3_eq rec k n (spec_NarrowRules.l2 rec k n) (fun x5 x6 y2_0 y2_1 y2_2 H => ih x5 x6 y2_0 y2_1 y2_2 H), spec_NarrowRules.j4_eq rec k, ih, -eq_self]
    kernel_rfl
theorem spec_NarrowRules.j1_eq (rec : Rec) (k : Nat) : ∀ x1 y2_0 y2_1 y2_2 H, spec_NarrowRules.j1 rec k x1 y2_0 y2_1 y2_2 H = ex PP (orc spec_NarrowRules.id) rec k (sub spec_NarrowRules.body [1, 1]) (St.of 59 [(1, .sl 1 x1), (2, .lp 2 0)] [(2, [.int .i64 y2_0, .sl 1 y2_1, .sl 3 y2_2])]) H (kAt PP (orc spec_NarrowRules.id) rec k spec_NarrowRules.body [1, 1] [] (K0 PP Go.Proofs.Try.f106)) := by
  intros x1 y2_0 y2_1 y2_2 H
  unfold spec_NarrowRules.j1
  try simp only [spec_NarrowRules.l2_eq rec k, -eq_self]
  kernel_rfl
theorem spec_NarrowRules.j0_eq (rec : Rec) (k : Nat) : ∀ x1 x19 y2_0 y2_1 y2_2 H, spec_NarrowRules.j0 rec k x1 x19 y2_0 y2_1 y2_2 H = ex PP (orc spec_NarrowRules.id) rec k (sub spec_NarrowRules.body [1, 0, 1]) (St.of 59 [(1, .sl 1 x1), (2, .lp 2 0), (19, .bool x19)] [(2, [.int .i64 y2_0, .sl 1 y2_1, .sl 3 y2_2])]) H (kAt PP (orc spec_NarrowRules.id) rec k spec_NarrowRules.body [1, 0, 1] [] (K0 PP Go.Proofs.Try.f106)) := by
  intros x1 x19 y2_0 y2_1 y2_2 H
  unfold spec_NarrowRules.j0
  try simp only [spec_NarrowRules.j1_eq rec k, -eq_self]
  kernel_rfl
theorem spec_NarrowRules.f_eq (rec : Rec) (k : Nat) : ∀ a0_0 a0_1 a0_2 a1 H, spec_NarrowRules.f rec k a0_0 a0_1 a0_2 a1 H = ex PP (orc spec_NarrowRules.id) rec k spec_NarrowRules.body (St.of 59 [(0, .agg [.int .i64 a0_0, .sl 1 a0_1, .sl 3 a0_2]), (1, .sl 1 a1)] []) H (K0 PP Go.Proofs.Try.f106) := by
  intros a0_0 a0_1 a0_2 a1 H
  unfold spec_NarrowRules.f
  try simp only [spec_NarrowRules.j0_eq rec k, -eq_self]
  kernel_rfl
theorem spec_NarrowRules.call (k : Nat) : ∀ a0_0 a0_1 a0_2 a1 H, callF PP orc (k + 1) spec_NarrowRules.id [.agg [.int .i64 a0_0, .sl 1 a0_1, .sl 3 a0_2], .sl 1 a1] H = spec_NarrowRules.f (callF PP orc k) k a0_0 a0_1 a0_2 a1 H := by
  intros a0_0 a0_1 a0_2 a1 H
  rw [callF_at (fn := Go.Proofs.Try.f106) (c := spec_NarrowRules.body) Go.Proofs.Try.func106 (by kernel_rfl) (Nat.le_of_ble_eq_true (by kernel_rfl)), spec_NarrowRules.f_eq]
  kernel_rfl
noncomputable def spec_l8Same.body : Code := (Go.Proofs.Try.f125).body.getD .skip
noncomputable def spec_l8Same.l0 (rec : Rec) (k : Nat) : Nat → Sl → Sl → Int → Hp → An
  | 0, _, _, _, _ => none
  | n + 1, x0, x1, x5, H => bif decide (x5 < (x0.len : Int)) then bif decide (0 ≤ (x5 : Int)) && decide ((x5 : Int) < x0.len) then (ldI .i64 H x0.blk (x0.off + (x5 : Int).toNat * 1)).bind fun n1 => bif decide (0 ≤ (x5 : Int)) && decide ((x5 : Int) < x1.len) then (ldI .i64 H x1.blk (x1.off + (x5 : Int).toNat * 1)).bind fun n2 => bif n1 != n2 then some (.bool false, H) else (spec_l8Same.l0 rec k n) x0 x1 (IntKind.i64.wrap (x5 + 1)) H else none else none else some (.bool true, H)
noncomputable def spec_l8Same.f (rec : Rec) (k : Nat) (a0 : Sl) (a1 : Sl) (H : Hp) : An := bif (a0.len : Int) != (a1.len : Int) then some (.bool false, H) else spec_l8Same.l0 rec k k a0 a1 0 H
theorem spec_l8Same.l0_eq (rec : Rec) (k : Nat) : ∀ n x0 x1 x5 H, spec_l8Same.l0 rec k n x0 x1 x5 H = iter ((orc spec_l8Same.id).at (lbody (sub spec_l8Same.body [1, 1, 0, 1, 0]))) (ex PP (orc spec_l8Same.id) rec k (lbody (sub spec_l8Same.body [1, 1, 0, 1, 0]))) (kAt PP (orc spec_l8Same.id) rec k spec_l8Same.body [1, 1, 0, 1, 0] [] (K0 PP Go.Proofs.Try.f125)) n (St.of 26 [(0, .sl 1 x0), (1, .sl 1 x1), (5, .int .i64 x5)] []) H := by
  intro n
  induction n with
  | zero => intros; rfl
  | succ n ih =>
    intros x0 x1 x5 H
    simp only [spec_l8Same.l0, ih, -eq_self]
    kernel_rfl
theorem spec_l8Same.f_eq (rec : Rec) (k : Nat) : ∀ a0 a1 H, spec_l8Same.f rec k a0 a1 H = ex PP (orc spec_l8Same.id) rec k spec_l8Same.body (St.of 26 [(0, .sl 1 a0), (1, .sl 1 a1)] []) H (K0 PP Go.Proofs.Try.f125) := by
  intros a0 a1 H
  unfold spec_l8Same.f
  try simp only [spec_l8Same.l0_eq rec k, -eq_self]
  kernel_rfl
theorem spec_l8Same.call (k : Nat) : ∀ a0 a1 H, callF PP orc (k + 1) spec_l8Same.id [.sl 1 a0, .sl 1 a1] H = spec_l8Same.f (callF PP orc k) k a0 a1 H := by
  intros a0 a1 H
  rw [callF_at (fn := Go.Proofs.Try.f125) (c := spec_l8Same.body) Go.Proofs.Try.func125 (by kernel_rfl) (Nat.le_of_ble_eq_true (by kernel_rfl)), spec_l8Same.f_eq]
  kernel_rfl
noncomputable def spec_NarrowBy.body : Code := (Go.Proofs.Try.f72).body.getD .skip
noncomputable def spec_NarrowBy.j1 (rec : Rec) (k : Nat) (x1 : Sl) (x2 : Int) (y3_0 : Int) (y3_1 : Sl) (y3_2 : Sl) (H : Hp) : An := bif x2 == 1 then (rec spec_NarrowSingles.id [.sl 1 x1, .int .i64 y3_0] H).bind fun r5 => (r5.1.toS 1).bind fun s6 => some (.sl 1 s6, r5.2) else bif x2 == 2 then (rec spec_NarrowHidden.id [.sl 1 x1, .int .i64 y3_0] H).bind fun r7 => (r7.1.toS 1).bind fun s8 => some (.sl 1 s8, r7.2) else bif x2 == 3 then (rec spec_NarrowPairs.id [.sl 1 x1, .int .i64 y3_0] H).bind fun r9 => (r9.1.toS 1).bind fun s10 => some (.sl 1 s10, r9.2) else bif x2 == 4 then (rec spec_NarrowRules.id [.agg [.int .i64 y3_0, .sl 1 y3_1, .sl 3 y3_2], .sl 1 x1] H).bind fun r11 => (r11.1.toS 1).bind fun s12 => some (.sl 1 s12, r11.2) else some (.sl 1 (Sl.mk false H.length 0 0), H ++ [some (Blk.mk false [])])
noncomputable def spec_NarrowBy.j0 (rec : Rec) (k : Nat) (x1 : Sl) (x2 : Int) (x16 : Bool) (y3_0 : Int) (y3_1 : Sl) (y3_2 : Sl) (H : Hp) : An := bif x16 then some (.sl 1 (Sl.mk false H.length 0 0), H ++ [some (Blk.mk false [])]) else spec_NarrowBy.j1 rec k x1 x2 y3_0 y3_1 y3_2 H
noncomputable def spec_NarrowBy.f (rec : Rec) (k : Nat) (a0_0 : Int) (a0_1 : Sl) (a0_2 : Sl) (a1 : Sl) (a2 : Int) (H : Hp) : An := (rec spec_PuzzleValid.id [.agg [.int .i64 a0_0, .sl 1 a0_1, .sl 3 a0_2]] H).bind fun r1 => r1.1.toB.bind fun b2 => bif !b2 then spec_NarrowBy.j0 rec k a1 a2 true a0_0 a0_1 a0_2 r1.2 else (rec spec_MasksValid.id [.sl 1 a1, .int .i64 a0_0] r1.2).bind fun r3 => r3.1.toB.bind fun b4 => spec_NarrowBy.j0 rec k a1 a2 (!b4) a0_0 a0_1 a0_2 r3.2
theorem spec_NarrowBy.j1_eq (rec : Rec) (k : Nat) : ∀ x1 x2 y3_0 y3_1 y3_2 H, spec_NarrowBy.j1 rec k x1 x2 y3_0 y3_1 y3_2 H = ex PP (orc spec_NarrowBy.id) rec k (sub spec_NarrowBy.body [1, 1]) (St.of 43 [(1, .sl 1 x1), (2, .int .i64 x2), (3, .lp 3 0)] [(3, [.int .i64 y3_0, .sl 1 y3_1, .sl 3 y3_2])]) H (kAt PP (orc spec_NarrowBy.id) rec k spec_NarrowBy.body [1, 1] [] (K0 PP Go.Proofs.Try.f72)) := by
  intros x1 x2 y3_0 y3_1 y3_2 H
  unfold spec_NarrowBy.j1
  kernel_rfl
theorem spec_NarrowBy.j0_eq (rec : Rec) (k : Nat) : ∀ x1 x2 x16 y3_0 y3_1 y3_2 H, spec_NarrowBy.j0 rec k x1 x2 x16 y3_0 y3_1 y3_2 H = ex PP (orc spec_NarrowBy.id) rec k (sub spec_NarrowBy.body [1, 0, 1]) (St.of 43 [(1, .sl 1 x1), (2, .int .i64 x2), (3, .lp 3 0), (16, .bool x16)] [(3, [.int .i64 y3_0, .sl 1 y3_1, .sl 3 y3_2])]) H (kAt PP (orc spec_NarrowBy.id) rec k spec_NarrowBy.body [1, 0, 1] [] (K0 PP Go.Proofs.Try.f72)) := by
  intros x1 x2 x16 y3_0 y3_1 y3_2 H
  unfold spec_NarrowBy.j0
  try simp only [spec_NarrowBy.j1_eq rec k, -eq_self]
  kernel_rfl
theorem spec_NarrowBy.f_eq (rec : Rec) (k : Nat) : ∀ a0_0 a0_1 a0_2 a1 a2 H, spec_NarrowBy.f rec k a0_0 a0_1 a0_2 a1 a2 H = ex PP (orc spec_NarrowBy.id) rec k spec_NarrowBy.body (St.of 43 [(0, .agg [.int .i64 a0_0, .sl 1 a0_1, .sl 3 a0_2]), (1, .sl 1 a1), (2, .int .i64 a2)] []) H (K0 PP Go.Proofs.Try.f72) := by
  intros a0_0 a0_1 a0_2 a1 a2 H
  unfold spec_NarrowBy.f
  try simp only [spec_NarrowBy.j0_eq rec k, -eq_self]
  kernel_rfl
theorem spec_NarrowBy.call (k : Nat) : ∀ a0_0 a0_1 a0_2 a1 a2 H, callF PP orc (k + 1) spec_NarrowBy.id [.agg [.int .i64 a0_0, .sl 1 a0_1, .sl 3 a0_2], .sl 1 a1, .int .i64 a2] H = spec_NarrowBy.f (callF PP orc k) k a0_0 a0_1 a0_2 a1 a2 H := by
  intros a0_0 a0_1 a0_2 a1 a2 H
  rw [callF_at (fn := Go.Proofs.Try.f72) (c := spec_NarrowBy.body) Go.Proofs.Try.func72 (by kernel_rfl) (Nat.le_of_ble_eq_true (by kernel_rfl)), spec_NarrowBy.f_eq]
  kernel_rfl
end Go.Proofs.Ytjojhbdghhmeeaa.Rp
/- The fourth technique; a technique by its number: the model's side of the program. No conditions. -/
set_option linter.unusedVariables false
set_option linter.unusedSimpArgs false
namespace Go.Proofs.Ytjojhbdghhmeeaa.Rp
open Go Go.RowKit Go.Proofs.Ytjojhbdghhmeeaa.Ab

theorem Rules_l3 (rec : Rec) (k : Nat) (L2 : Sl → Int → Int → Sl → Sl → Hp → An) {H0 Hb : Hp} {n kind value : Int} {gs s cs us t : Sl} {cells fl : List Int} {i m : Nat} (hc : Reads .i64 H0 cs cells) (hcl : cells.length ≤ 1000) (hfl : fl.length = cells.length) (hin : ∀ c ∈ cells, 0 ≤ c ∧ c < (m : Int)) (hm : m ≤ 1000) (htb : t.blk < Hb.length) :
    ∀ (j q fuel : Nat) (H : Hp) (a : List Int), q + j = cells.length → j < fuel → H0 <+: H → Own 1 Hb H us (fl.map (.int .i64)) → Own 1 H0 H t (a.map (.int .i64)) → a.length = m →
      ∃ H', spec_NarrowRules.l3 rec k L2 fuel t i us q n gs s kind cs value H = L2 t (IntKind.i64.wrap ((i : Int) + 1)) n gs s H' ∧ H0 <+: H' ∧ Own 1 H0 H' t ((setAll cells a fl q j).map (.int .i64)) ∧ Adv t.blk H H' := by
  have hcs := hc.len
  intro j
  induction j with
  | zero =>
    intro q fuel H a hq hf hp hu ho ha
    obtain ⟨fuel, rfl⟩ : ∃ q, fuel = q + 1 := ⟨fuel - 1, by omega⟩
    refine ⟨H, ?_, hp, ho, Adv.refl _ _⟩
    simp (disch := omega) only [spec_NarrowRules.l3, spec_NarrowRules.j5, dt, df, cond_true, cond_false]
  | succ j ih =>
    intro q fuel H a hq hf hp hu ho ha
    obtain ⟨fuel, rfl⟩ : ∃ q, fuel = q + 1 := ⟨fuel - 1, by omega⟩
    have hq2 : q < cells.length := by omega
    obtain ⟨c0, c1⟩ := hin _ (mem_getD hq2)
    have hus := (own_reads hu).len
    have htl := (own_reads ho).len
    have hrc := pf_reads hp hc
    obtain ⟨H1, a1, a2, a3, a4⟩ := own_set1 ho hp (cells.getD q 0).toNat (by omega) (fl.getD q 0)
    obtain ⟨H', b1, b2, b3, b4⟩ := ih (q + 1) fuel H1 _ (by omega) (by omega) a2 (a4.own htb hu) a3 (by simpa using ha)
    push_cast at b1
    refine ⟨H', ?_, b2, b3, a4.trans b4⟩
    simp (disch := omega) only [spec_NarrowRules.l3, dt, Bool.and_self, cond_true, Int.toNat_natCast, Option.bind_some, rdn hrc, rdn (own_reads hu), a1, wr (n := (q : Int) + 1), b1]
theorem val_drop (rs : List R) (i : Nat) (h : i < rs.length) : (rs.drop i).map R.val = rs[i].val :: (rs.drop (i + 1)).map R.val := by
  rw [List.drop_eq_getElem_cons h]; rfl
theorem Rules_l2 {k : Nat} (hk : 2000040 ≤ k) {H0 : Hp} {n : Int} {gs s t : Sl} {given : List Int} {rs : List R} (hz : PuzAt H0 n gs s given rs) (hro : ∀ r ∈ rs, R.ok n r = true) :
    ∀ (j i fuel : Nat) (H : Hp) (a : List Int), i + j = rs.length → j < fuel → H0 <+: H → Own 1 H0 H t (a.map (.int .i64)) → masksOk n a = true →
      ∃ H', spec_NarrowRules.l2 (callF PP orc k) k fuel t i n gs s H = some (.sl 1 t, H') ∧ H0 <+: H' ∧ Own 1 H0 H' t ((((rs.drop i).map R.val).foldl (ruleStep n) a).map (.int .i64)) := by
  have hrl := hz.rr.len
  have hrl2 := hz.rl
  have hn := hz.n4
  intro j
  induction j with
  | zero =>
    intro i fuel H a hi hf hp ho ha
    obtain ⟨fuel, rfl⟩ : ∃ q, fuel = q + 1 := ⟨fuel - 1, by omega⟩
    rw [List.drop_eq_nil_of_le (by omega)]
    refine ⟨H, ?_, hp, ho⟩
    simp (disch := omega) only [spec_NarrowRules.l2, spec_NarrowRules.j4, dt, df, cond_true, cond_false]
  | succ j ih =>
    intro i fuel H a hi hf hp ho ha
    obtain ⟨fuel, rfl⟩ : ∃ q, fuel = q + 1 := ⟨fuel - 1, by omega⟩
    have hi2 : i < rs.length := by omega
    obtain ⟨l0, l1, l2⟩ := rules_at1 (pf_readsR hp hz.rr) i hi2
    have hrc := hz.rc _ (List.getElem_mem hi2)
    have hrk := hro _ (List.getElem_mem hi2)
    have hok : ruleOkV n rs[i].val = true := hrk
    obtain ⟨c1, c2, c3, c4⟩ := ruleOk_cells hok
    obtain ⟨ml4, ml16, _⟩ := masks_len ha
    have hm2 := (masksOk_iff.1 ha).2.2
    obtain ⟨u, H1, a1, a2, a3⟩ := specRuleMasks_ok (show 2000030 ≤ k by omega) (n := n) (kind := rs[i].kind) (value := rs[i].value) (by omega) (pf_reads hp (hz.rr.cs i hi2)) (own_reads ho) (by omega) (by omega)
    have hfl : (ruleMasksS n rs[i].kind rs[i].value rs[i].cells a).length = rs[i].cells.length := by
      have e : ruleMasksS n rs[i].kind rs[i].value rs[i].cells a = ruleMasksV rs[i].kind rs[i].value (ownOf a rs[i].cells) := ruleMasks_S hok ha
      have h4 : rs[i].cells.length ≤ 4 := c2
      rw [e, (ruleMasks_ok (by rw [own_len]; exact h4)).2, own_len]
    obtain ⟨H2, b1, b2, b3, b4⟩ := Rules_l3 (callF PP orc k) k (spec_NarrowRules.l2 (callF PP orc k) k fuel) (n := n) (kind := rs[i].kind) (value := rs[i].value) (gs := gs) (s := s) (i := i) (m := a.length) (hz.rr.cs i hi2) hrc hfl (fun c hc => by have := c1 c hc; omega) (by omega) (own_lt' ho) rs[i].cells.length 0 k H1 a (by omega) (by omega) (hp.trans a2) a3 (own_pf ho a2) rfl
    have hst : masksOk n (ruleStep n a rs[i].val) = true := (ruleStep_sub hok ha).ok ha
    obtain ⟨H', d1, d2, d3⟩ := ih (i + 1) fuel H2 (ruleStep n a rs[i].val) (by omega) (by omega) b2 b3 hst
    push_cast at d1
    rw [val_drop rs i hi2, List.foldl_cons]
    refine ⟨H', ?_, d2, d3⟩
    simp only [Int.natCast_zero] at b1
    simp (disch := omega) only [spec_NarrowRules.l2, dt, Bool.and_self, cond_true, Int.toNat_natCast, Option.bind_some, l0, l1, l2, a1, AV.toS, if_true, b1, wr (n := (i : Int) + 1), d1]
theorem specNarrowRules_ok {k : Nat} (hk : 2000050 ≤ k) {H : Hp} {n : Int} {gs s ms : Sl} {given l : List Int} {rs : List R} (hz : PuzAt H n gs s given rs) (hm : Reads .i64 H ms l) (hl : l.length ≤ 1000) :
    ∃ t H', callF PP orc k spec_NarrowRules.id [.agg [.int .i64 n, .sl 1 gs, .sl 3 s], .sl 1 ms] H = some (.sl 1 t, H') ∧ H <+: H' ∧ Own 1 H H' t ((rulesV n given (rs.map R.val) l).map (.int .i64)) := by
  obtain ⟨k, rfl⟩ : ∃ q, k = q + 1 := ⟨k - 1, by omega⟩
  rw [spec_NarrowRules.call]
  have hn := hz.n4
  have h1 := specPuzzleValid_ok (show 2000003 ≤ k by omega) hz.n4 hz.rg hz.gl hz.rr hz.rl hz.rc
  rw [puzzle_map] at h1
  have h2 := specMasksValid_any (show 2000000 ≤ k by omega) (n := n) (by omega) hm hl
  unfold rulesV
  cases e1 : puzzleV n given (rs.map R.val) with
  | false =>
    rw [e1] at h1
    rw [iN (by simp)]
    exact ⟨Sl.mk false H.length 0 0, H ++ [some (Blk.mk false [])], by simp only [spec_NarrowRules.f, spec_NarrowRules.j0, dt, df, bt, bf, nt, nf, Bool.and_self, Bool.not_true, Bool.not_false, cond_true, cond_false, Int.toNat_natCast, Int.toNat_zero, Int.toNat_one, Option.bind_some, wr, AV.toB, AV.toI, AV.toS, if_true, h1], (List.prefix_append _ _), own_new 1 H [] 0 rfl⟩
  | true =>
    rw [e1] at h1
    cases e2 : masksOk n l with
    | false =>
      rw [e2] at h2
      rw [iN (by simp)]
      exact ⟨Sl.mk false H.length 0 0, H ++ [some (Blk.mk false [])], by simp only [spec_NarrowRules.f, spec_NarrowRules.j0, dt, df, bt, bf, nt, nf, Bool.and_self, Bool.not_true, Bool.not_false, cond_true, cond_false, Int.toNat_natCast, Int.toNat_zero, Int.toNat_one, Option.bind_some, wr, AV.toB, AV.toI, AV.toS, if_true, h1, h2], (List.prefix_append _ _), own_new 1 H [] 0 rfl⟩
    | true =>
      rw [e2] at h2
      rw [ip ⟨rfl, rfl⟩]
      have h3 := l6Copy_ok (show 1 ≤ k by omega) hm hl
      have hnew := own_new 1 H (l.map (.int .i64)) l.length (by simp)
      obtain ⟨_, _, q3⟩ := puzzleV_iff e1
      have hrl := hz.rl
      obtain ⟨H', b1, b2, b3⟩ := Rules_l2 (show 2000040 ≤ k by omega) hz q3 rs.length 0 k (H ++ [some (Blk.mk false (l.map (.int .i64)))]) l (by omega) (by omega) (List.prefix_append _ _) hnew e2
      rw [List.drop_zero] at b3
      refine ⟨_, H', ?_, b2, b3⟩
      simp only [Int.natCast_zero] at b1
      simp only [spec_NarrowRules.f, spec_NarrowRules.j0, spec_NarrowRules.j1, dt, df, bt, bf, nt, nf, Bool.and_self, Bool.not_true, Bool.not_false, cond_true, cond_false, Int.toNat_natCast, Int.toNat_zero, Int.toNat_one, Option.bind_some, wr, AV.toB, AV.toI, AV.toS, if_true, h1, h2, h3, b1]
theorem l8Same_l0 (rec : Rec) (k : Nat) {H : Hp} {s t : Sl} {x y : List Int} (hs : Reads .i64 H s x) (ht : Reads .i64 H t y) (hl : x.length = y.length) (h1 : x.length ≤ 1000) :
    ∀ (j i fuel : Nat), i + j = x.length → j < fuel → spec_l8Same.l0 rec k fuel s t i H = some (.bool (decide (x.drop i = y.drop i)), H) := by
  have hsl := hs.len
  have htl := ht.len
  intro j
  induction j with
  | zero =>
    intro i fuel hi hf
    obtain ⟨fuel, rfl⟩ : ∃ q, fuel = q + 1 := ⟨fuel - 1, by omega⟩
    rw [List.drop_eq_nil_of_le (show x.length ≤ i by omega), List.drop_eq_nil_of_le (show y.length ≤ i by omega)]
    simp (disch := omega) only [spec_l8Same.l0, dt, df, bt, bf, nt, nf, Bool.and_self, Bool.not_true, Bool.not_false, cond_true, cond_false, Int.toNat_natCast, Int.toNat_zero, Int.toNat_one, Option.bind_some, wr, AV.toB, AV.toI, AV.toS, if_true]
    rfl
  | succ j ih =>
    intro i fuel hi hf
    obtain ⟨fuel, rfl⟩ : ∃ q, fuel = q + 1 := ⟨fuel - 1, by omega⟩
    have hx : i < x.length := by omega
    have hy : i < y.length := by omega
    have ex : x.drop i = x.getD i 0 :: x.drop (i + 1) := by
      rw [List.drop_eq_getElem_cons hx, List.getD_eq_getElem?_getD, List.getElem?_eq_getElem hx]; rfl
    have ey : y.drop i = y.getD i 0 :: y.drop (i + 1) := by
      rw [List.drop_eq_getElem_cons hy, List.getD_eq_getElem?_getD, List.getElem?_eq_getElem hy]; rfl
    rw [ex, ey]
    by_cases c : x.getD i 0 = y.getD i 0
    · have d1 := ih (i + 1) fuel (by omega) (by omega)
      push_cast at d1
      rw [show decide (x.getD i 0 :: x.drop (i + 1) = y.getD i 0 :: y.drop (i + 1)) = decide (x.drop (i + 1) = y.drop (i + 1)) by rw [c]; simp, ← d1]
      simp (disch := omega) only [spec_l8Same.l0, dt, df, bt, bf, nt, nf, Bool.and_self, Bool.not_true, Bool.not_false, cond_true, cond_false, Int.toNat_natCast, Int.toNat_zero, Int.toNat_one, Option.bind_some, wr, AV.toB, AV.toI, AV.toS, if_true, rdn hs, rdn ht, nf]
    · rw [show decide (x.getD i 0 :: x.drop (i + 1) = y.getD i 0 :: y.drop (i + 1)) = false from decide_eq_false fun h => c (List.cons.inj h).1]
      simp (disch := omega) only [spec_l8Same.l0, dt, df, bt, bf, nt, nf, Bool.and_self, Bool.not_true, Bool.not_false, cond_true, cond_false, Int.toNat_natCast, Int.toNat_zero, Int.toNat_one, Option.bind_some, wr, AV.toB, AV.toI, AV.toS, if_true, rdn hs, rdn ht, nt]
theorem l8Same_ok {k : Nat} (hk : 2000000 ≤ k) {H : Hp} {s t : Sl} {x y : List Int} (hs : Reads .i64 H s x) (ht : Reads .i64 H t y) (h1 : x.length ≤ 1000) (h2 : y.length ≤ 1000) :
    callF PP orc k spec_l8Same.id [.sl 1 s, .sl 1 t] H = some (.bool (decide (x = y)), H) := by
  obtain ⟨k, rfl⟩ : ∃ q, k = q + 1 := ⟨k - 1, by omega⟩
  rw [spec_l8Same.call]
  have hsl := hs.len
  have htl := ht.len
  by_cases c : x.length = y.length
  · have d1 := l8Same_l0 (callF PP orc k) k hs ht c h1 x.length 0 k (by omega) (by omega)
    simp only [Int.natCast_zero, List.drop_zero] at d1
    rw [← d1]
    simp (disch := omega) only [spec_l8Same.f, dt, df, bt, bf, nt, nf, Bool.and_self, Bool.not_true, Bool.not_false, cond_true, cond_false, Int.toNat_natCast, Int.toNat_zero, Int.toNat_one, Option.bind_some, wr, AV.toB, AV.toI, AV.toS, if_true]
  · rw [decide_eq_false (fun h => c (congrArg List.length h))]
    simp (disch := omega) only [spec_l8Same.f, dt, df, bt, bf, nt, nf, Bool.and_self, Bool.not_true, Bool.not_false, cond_true, cond_false, Int.toNat_natCast, Int.toNat_zero, Int.toNat_one, Option.bind_some, wr, AV.toB, AV.toI, AV.toS, if_true]
theorem specNarrowBy_ok {k : Nat} (hk : 2000060 ≤ k) {H : Hp} {n : Int} {gs s ms : Sl} {given l : List Int} {rs : List R} (hz : PuzAt H n gs s given rs) (hm : Reads .i64 H ms l) (hl : l.length ≤ 1000) (t : Int) :
    ∃ u H', callF PP orc k spec_NarrowBy.id [.agg [.int .i64 n, .sl 1 gs, .sl 3 s], .sl 1 ms, .int .i64 t] H = some (.sl 1 u, H') ∧ H <+: H' ∧ Own 1 H H' u ((narrowV n given (rs.map R.val) l t).map (.int .i64)) := by
  obtain ⟨k, rfl⟩ : ∃ q, k = q + 1 := ⟨k - 1, by omega⟩
  rw [spec_NarrowBy.call]
  have hn := hz.n4
  have h1 := specPuzzleValid_ok (show 2000003 ≤ k by omega) hz.n4 hz.rg hz.gl hz.rr hz.rl hz.rc
  rw [puzzle_map] at h1
  have h2 := specMasksValid_any (show 2000000 ≤ k by omega) (n := n) (by omega) hm hl
  unfold narrowV
  cases e1 : puzzleV n given (rs.map R.val) with
  | false =>
    rw [e1] at h1
    rw [iN (by simp)]
    exact ⟨Sl.mk false H.length 0 0, H ++ [some (Blk.mk false [])], by simp only [spec_NarrowBy.f, spec_NarrowBy.j0, dt, df, bt, bf, nt, nf, Bool.and_self, Bool.not_true, Bool.not_false, cond_true, cond_false, Int.toNat_natCast, Int.toNat_zero, Int.toNat_one, Option.bind_some, wr, AV.toB, AV.toI, AV.toS, if_true, h1], (List.prefix_append _ _), own_new 1 H [] 0 rfl⟩
  | true =>
    rw [e1] at h1
    cases e2 : masksOk n l with
    | false =>
      rw [e2] at h2
      rw [iN (by simp)]
      exact ⟨Sl.mk false H.length 0 0, H ++ [some (Blk.mk false [])], by simp only [spec_NarrowBy.f, spec_NarrowBy.j0, dt, df, bt, bf, nt, nf, Bool.and_self, Bool.not_true, Bool.not_false, cond_true, cond_false, Int.toNat_natCast, Int.toNat_zero, Int.toNat_one, Option.bind_some, wr, AV.toB, AV.toI, AV.toS, if_true, h1, h2], (List.prefix_append _ _), own_new 1 H [] 0 rfl⟩
    | true =>
      rw [e2] at h2
      rw [ip ⟨rfl, rfl⟩]
      by_cases t1 : t = 1
      · obtain ⟨u, H', a1, a2, a3⟩ := specNarrowSingles_ok (show 2000010 ≤ k by omega) (n := n) (by omega) hm hl
        rw [ip t1]
        exact ⟨u, H', by simp only [spec_NarrowBy.f, spec_NarrowBy.j0, spec_NarrowBy.j1, dt, df, bt, bf, nt, nf, Bool.and_self, Bool.not_true, Bool.not_false, cond_true, cond_false, Int.toNat_natCast, Int.toNat_zero, Int.toNat_one, Option.bind_some, wr, AV.toB, AV.toI, AV.toS, if_true, h1, h2, bt t1, a1], a2, a3⟩
      rw [iN t1]
      by_cases t2 : t = 2
      · obtain ⟨u, H', a1, a2, a3⟩ := specNarrowHidden_ok (show 2000010 ≤ k by omega) (n := n) (by omega) hm hl
        rw [ip t2]
        exact ⟨u, H', by simp only [spec_NarrowBy.f, spec_NarrowBy.j0, spec_NarrowBy.j1, dt, df, bt, bf, nt, nf, Bool.and_self, Bool.not_true, Bool.not_false, cond_true, cond_false, Int.toNat_natCast, Int.toNat_zero, Int.toNat_one, Option.bind_some, wr, AV.toB, AV.toI, AV.toS, if_true, h1, h2, bf t1, bt t2, a1], a2, a3⟩
      rw [iN t2]
      by_cases t3 : t = 3
      · obtain ⟨u, H', a1, a2, a3⟩ := specNarrowPairs_ok (show 2000010 ≤ k by omega) (n := n) (by omega) hm hl
        rw [ip t3]
        exact ⟨u, H', by simp only [spec_NarrowBy.f, spec_NarrowBy.j0, spec_NarrowBy.j1, dt, df, bt, bf, nt, nf, Bool.and_self, Bool.not_true, Bool.not_false, cond_true, cond_false, Int.toNat_natCast, Int.toNat_zero, Int.toNat_one, Option.bind_some, wr, AV.toB, AV.toI, AV.toS, if_true, h1, h2, bf t1, bf t2, bt t3, a1], a2, a3⟩
      rw [iN t3]
      by_cases t4 : t = 4
      · obtain ⟨u, H', a1, a2, a3⟩ := specNarrowRules_ok (show 2000050 ≤ k by omega) hz hm hl
        rw [ip t4]
        exact ⟨u, H', by simp only [spec_NarrowBy.f, spec_NarrowBy.j0, spec_NarrowBy.j1, dt, df, bt, bf, nt, nf, Bool.and_self, Bool.not_true, Bool.not_false, cond_true, cond_false, Int.toNat_natCast, Int.toNat_zero, Int.toNat_one, Option.bind_some, wr, AV.toB, AV.toI, AV.toS, if_true, h1, h2, bf t1, bf t2, bf t3, bt t4, a1], a2, a3⟩
      rw [iN t4]
      exact ⟨Sl.mk false H.length 0 0, H ++ [some (Blk.mk false [])], by simp only [spec_NarrowBy.f, spec_NarrowBy.j0, spec_NarrowBy.j1, dt, df, bt, bf, nt, nf, Bool.and_self, Bool.not_true, Bool.not_false, cond_true, cond_false, Int.toNat_natCast, Int.toNat_zero, Int.toNat_one, Option.bind_some, wr, AV.toB, AV.toI, AV.toS, if_true, h1, h2, bf t1, bf t2, bf t3, bf t4], (List.prefix_append _ _), own_new 1 H [] 0 rfl⟩
end Go.Proofs.Ytjojhbdghhmeeaa.Rp
/- Functions of the program as plain Lean functions. No conditions. -/
set_option linter.unusedVariables false
set_option linter.unusedSimpArgs false
set_option maxRecDepth 100000
namespace Go.Proofs.Ytjojhbdghhmeeaa.Rp
open Go Go.Proofs.Ytjojhbdghhmeeaa.Ab
noncomputable def spec_NarrowAll.body : Code := (Go.Proofs.Try.f115).body.getD .skip
noncomputable def spec_NarrowAll.j3 (rec : Rec) (k : Nat) (x8 : Sl) (x9 : Int) (H : Hp) : An := some (.tup [.sl 1 x8, .int .i64 x9], H)
noncomputable def spec_NarrowAll.l2 (rec : Rec) (k : Nat) : Nat → Int → Sl → Int → Int → Int → Sl → Sl → Hp → An
  | 0, _, _, _, _, _, _, _, _ => none
  | n + 1, x2, x8, x9, x10, y3_0, y3_1, y3_2, H => bif decide (x10 ≤ x2) then (rec spec_NarrowBy.id [.agg [.int .i64 y3_0, .sl 1 y3_1, .sl 3 y3_2], .sl 1 x8, .int .i64 x10] H).bind fun r9 => (r9.1.toS 1).bind fun s10 => (rec spec_l8Same.id [.sl 1 s10, .sl 1 x8] r9.2).bind fun r11 => r11.1.toB.bind fun b12 => bif b12 then (spec_NarrowAll.l2 rec k n) x2 x8 x9 (IntKind.i64.wrap (x10 + 1)) y3_0 y3_1 y3_2 r11.2 else (spec_NarrowAll.l2 rec k n) x2 s10 (IntKind.i64.wrap (x9 + 1)) 1 y3_0 y3_1 y3_2 r11.2 else spec_NarrowAll.j3 rec k x8 x9 H
noncomputable def spec_NarrowAll.j1 (rec : Rec) (k : Nat) (x1 : Sl) (x2 : Int) (y3_0 : Int) (y3_1 : Sl) (y3_2 : Sl) (H : Hp) : An := (rec spec_l6Copy.id [.sl 1 x1] H).bind fun r7 => (r7.1.toS 1).bind fun s8 => spec_NarrowAll.l2 rec k k x2 s8 0 1 y3_0 y3_1 y3_2 r7.2
noncomputable def spec_NarrowAll.j0 (rec : Rec) (k : Nat) (x1 : Sl) (x2 : Int) (x26 : Bool) (y3_0 : Int) (y3_1 : Sl) (y3_2 : Sl) (H : Hp) : An := bif x26 then some (.tup [.sl 1 (Sl.mk false H.length 0 0), .int .i64 (-1)], H ++ [some (Blk.mk false [])]) else spec_NarrowAll.j1 rec k x1 x2 y3_0 y3_1 y3_2 H
noncomputable def spec_NarrowAll.f (rec : Rec) (k : Nat) (a0_0 : Int) (a0_1 : Sl) (a0_2 : Sl) (a1 : Sl) (a2 : Int) (H : Hp) : An := (rec spec_PuzzleValid.id [.agg [.int .i64 a0_0, .sl 1 a0_1, .sl 3 a0_2]] H).bind fun r1 => r1.1.toB.bind fun b2 => bif !b2 then spec_NarrowAll.j0 rec k a1 a2 true a0_0 a0_1 a0_2 r1.2 else (rec spec_MasksValid.id [.sl 1 a1, .int .i64 a0_0] r1.2).bind fun r3 => r3.1.toB.bind fun b4 => bif !b4 then spec_NarrowAll.j0 rec k a1 a2 true a0_0 a0_1 a0_2 r3.2 else (rec spec_l1In.id [.int .i64 a2, .int .i64 1, .int .i64 4] r3.2).bind fun r5 => r5.1.toB.bind fun b6 => spec_NarrowAll.j0 rec k a1 a2 (!b6) a0_0 a0_1 a0_2 r5.2
theorem spec_NarrowAll.j3_eq (rec : Rec) (k : Nat) : ∀ x8 x9 H, spec_NarrowAll.j3 rec k x8 x9 H = ex PP (orc spec_NarrowAll.id) rec k (sub spec_NarrowAll.body [1, 1, 1, 1, 1]) (St.of 47 [(8, .sl 1 x8), (9, .int .i64 x9)] []) H (kAt PP (orc spec_NarrowAll.id) rec k spec_NarrowAll.body [1, 1, 1, 1, 1] [] (K0 PP Go.Proofs.Try.f115)) := by
  intros x8 x9 H
  unfold spec_NarrowAll.j3
  kernel_rfl
theorem spec_NarrowAll.l2_eq (rec : Rec) (k : Nat) : ∀ n x2 x8 x9 x10 y3_0 y3_1 y3_2 H, spec_NarrowAll.l2 rec k n x2 x8 x9 x10 y3_0 y3_1 y3_2 H = iter ((orc spec_NarrowAll.id).at (lbody (sub spec_NarrowAll.body [1, 1, 1, 1, 0, 1, 0]))) (ex PP (orc spec_NarrowAll.id) rec k (lbody (sub spec_NarrowAll.body [1, 1, 1, 1, 0, 1, 0]))) (kAt PP (orc spec_NarrowAll.id) rec k spec_NarrowAll.body [1, 1, 1, 1, 0, 1, 0] [] (K0 PP Go.Proofs.Try.f115)) n (St.of 47 [(2, .int .i64 x2), (3, .lp 3 0), (8, .sl 1 x8), (9, .int .i64 x9), (10, .int .i64 x10)] [(3, [.int .i64 y3_0, .sl 1 y3_1, .sl 3 y3_2])]) H := by
  intro n
  induction n with
  | zero => intros; rfl
  | succ n ih =>
    intros x2 x8 x9 x10 y3_0 y3_1 y3_2 H
    simp only [spec_NarrowAll.l2, spec_NarrowAll.j3_eq rec k, ih, -eq_self]
    kernel_rfl
theorem spec_NarrowAll.j1_eq (rec : Rec) (k : Nat) : ∀ x1 x2 y3_0 y3_1 y3_2 H, spec_NarrowAll.j1 rec k x1 x2 y3_0 y3_1 y3_2 H = ex PP (orc spec_NarrowAll.id) rec k (sub spec_NarrowAll.body [1, 1]) (St.of 47 [(1, .sl 1 x1), (2, .int .i64 x2), (3, .lp 3 0)] [(3, [.int .i64 y3_0, .sl 1 y3_1, .sl 3 y3_2])]) H (kAt PP (orc spec_NarrowAll.id) rec k spec_NarrowAll.body [1, 1] [] (K0 PP Go.Proofs.Try.f115)) := by
  intros x1 x2 y3_0 y3_1 y3_2 H
  unfold spec_NarrowAll.j1
  try simp only [spec_NarrowAll.l2_eq rec k, -eq_self]
  kernel_rfl
theorem spec_NarrowAll.j0_eq (rec : Rec) (k : Nat) : ∀ x1 x2 x26 y3_0 y3_1 y3_2 H, spec_NarrowAll.j0 rec k x1 x2 x26 y3_0 y3_1 y3_2 H = ex PP (orc spec_NarrowAll.id) rec k (sub spec_NarrowAll.body [1, 0, 1]) (St.of 47 [(1, .sl 1 x1), (2, .int .i64 x2), (3, .lp 3 0), (26, .bool x26)] [(3, [.int .i64 y3_0, .sl 1 y3_1, .sl 3 y3_2])]) H (kAt PP (orc spec_NarrowAll.id) rec k spec_NarrowAll.body [1, 0, 1] [] (K0 PP Go.Proofs.Try.f115)) := by
  intros x1 x2 x26 y3_0 y3_1 y3_2 H
  unfold spec_NarrowAll.j0
  try simp only [spec_NarrowAll.j1_eq rec k, -eq_self]
  kernel_rfl
theorem spec_NarrowAll.f_eq (rec : Rec) (k : Nat) : ∀ a0_0 a0_1 a0_2 a1 a2 H, spec_NarrowAll.f rec k a0_0 a0_1 a0_2 a1 a2 H = ex PP (orc spec_NarrowAll.id) rec k spec_NarrowAll.body (St.of 47 [(0, .agg [.int .i64 a0_0, .sl 1 a0_1, .sl 3 a0_2]), (1, .sl 1 a1), (2, .int .i64 a2)] []) H (K0 PP Go.Proofs.Try.f115) := by
  intros a0_0 a0_1 a0_2 a1 a2 H
  unfold spec_NarrowAll.f
  try simp only [spec_NarrowAll.j0_eq rec k, -eq_self]
  kernel_rfl
theorem spec_NarrowAll.call (k : Nat) : ∀ a0_0 a0_1 a0_2 a1 a2 H, callF PP orc (k + 1) spec_NarrowAll.id [.agg [.int .i64 a0_0, .sl 1 a0_1, .sl 3 a0_2], .sl 1 a1, .int .i64 a2] H = spec_NarrowAll.f (callF PP orc k) k a0_0 a0_1 a0_2 a1 a2 H := by
  intros a0_0 a0_1 a0_2 a1 a2 H
  rw [callF_at (fn := Go.Proofs.Try.f115) (c := spec_NarrowAll.body) Go.Proofs.Try.func115 (by kernel_rfl) (Nat.le_of_ble_eq_true (by kernel_rfl)), spec_NarrowAll.f_eq]
  kernel_rfl
end Go.Proofs.Ytjojhbdghhmeeaa.Rp
/- Rounds of techniques to their end: the model's side of the program. No conditions. -/
set_option linter.unusedVariables false
set_option linter.unusedSimpArgs false
namespace Go.Proofs.Ytjojhbdghhmeeaa.Rp
open Go Go.RowKit Go.Proofs.Ytjojhbdghhmeeaa.Ab

theorem next_at {N : List Int → Int → List Int} {l : List Int} : ∀ (j : Nat) (s t : Int), s ≤ t → t < s + j → (∀ w, s ≤ w → w < t → N l w = l) → N l t ≠ l → nextFrom N l j s = some (t, N l t)
  | 0, s, t, h1, h2, _, _ => by omega
  | j + 1, s, t, h1, h2, h3, h4 => by
    rw [nextFrom]
    by_cases e : s = t
    · subst e; rw [if_neg h4]
    · rw [if_pos (h3 s (Int.le_refl _) (by omega))]
      exact next_at j (s + 1) t (by omega) (by omega) (fun w h5 h6 => h3 w (by omega) h6) h4
/-- The rounds' end and their number. -/
noncomputable def allV (n : Int) (given : List Int) (vs : List V) (l : List Int) (most : Int) : List Int × Int :=
  if puzzleV n given vs = true ∧ masksOk n l = true ∧ 1 ≤ most ∧ most ≤ 4 then (lastV (runS (narrowV n given vs) most.toNat l) l, ((runS (narrowV n given vs) most.toNat l).length : Int)) else ([], -1)
theorem NarrowAll_l2 {k : Nat} (hk : 2000060 ≤ k) {H0 : Hp} {n : Int} {gs s : Sl} {given : List Int} {rs : List R} (hz : PuzAt H0 n gs s given rs) (hp : puzzleV n given (rs.map R.val) = true) {most : Nat} (hm : most ≤ 4) :
    ∀ (m fuel : Nat) (H : Hp) (u : Sl) (a : List Int) (t r : Nat), 5 * total a + (most + 1 - t) ≤ m → m < fuel → H0 <+: H → Own 1 H0 H u (a.map (.int .i64)) → masksOk n a = true → 1 ≤ t → t ≤ most + 1 → (∀ w : Int, 1 ≤ w → w < (t : Int) → narrowV n given (rs.map R.val) a w = a) → r + total a ≤ 1000 →
      ∃ u' H', spec_NarrowAll.l2 (callF PP orc k) k fuel (most : Int) u (r : Int) (t : Int) n gs s H = some (.tup [.sl 1 u', .int .i64 ((r + (runS (narrowV n given (rs.map R.val)) most a).length : Nat) : Int)], H') ∧ H0 <+: H' ∧ Own 1 H0 H' u' ((lastV (runS (narrowV n given (rs.map R.val)) most a) a).map (.int .i64)) := by
  have hgood := narrow_good hp hm
  intro m
  induction m with
  | zero =>
    intro fuel H u a t r h1 hf hpf ho ha ht1 ht2 hw hr
    obtain ⟨fuel, rfl⟩ : ∃ q, fuel = q + 1 := ⟨fuel - 1, by omega⟩
    have hno : nextFrom (narrowV n given (rs.map R.val)) a most 1 = none := (next_none most 1).2 fun w w1 w2 => hw w w1 (by omega)
    rw [runS_none hno]
    refine ⟨u, H, ?_, hpf, ho⟩
    simp (disch := omega) only [spec_NarrowAll.l2, spec_NarrowAll.j3, df, cond_false, List.length_nil, Nat.add_zero]
  | succ m ih =>
    intro fuel H u a t r h1 hf hpf ho ha ht1 ht2 hw hr
    obtain ⟨fuel, rfl⟩ : ∃ q, fuel = q + 1 := ⟨fuel - 1, by omega⟩
    by_cases ct : t ≤ most
    · have hal := masks_len ha
      obtain ⟨v, H1, a1, a2, a3⟩ := specNarrowBy_ok hk (hz.pf hpf) (own_reads ho) (by omega) (t : Int)
      have hg := hgood a t ha (by omega) (by omega)
      have hgl := masks_len hg.1
      have h2 := l8Same_ok (show 2000000 ≤ k by omega) (own_reads a3) (pf_reads a2 (own_reads ho)) (by omega) (by omega)
      by_cases c : narrowV n given (rs.map R.val) a t = a
      · rw [decide_eq_true c] at h2
        obtain ⟨u', H', b1, b2, b3⟩ := ih fuel H1 u a (t + 1) r (by omega) (by omega) (hpf.trans a2) (own_pf ho a2) ha (by omega) (by omega) (fun w w1 w2 => by
          by_cases e : w = t
          · rw [e]; exact c
          · exact hw w w1 (by omega)) hr
        push_cast at b1
        refine ⟨u', H', ?_, b2, b3⟩
        simp (disch := omega) only [spec_NarrowAll.l2, dt, cond_true, a1, h2, Option.bind_some, AV.toS, AV.toB, if_true, wr (n := (t : Int) + 1), b1]
        push_cast; rfl
      · rw [decide_eq_false c] at h2
        have hno := next_at most 1 t (by omega) (by omega) (fun w w1 w2 => hw w w1 (by omega)) c
        obtain ⟨q1, q2, q3⟩ := next_good hgood ha hno
        rw [runS_some hgood ha hno]
        obtain ⟨u', H', b1, b2, b3⟩ := ih fuel H1 v (narrowV n given (rs.map R.val) a t) 1 (r + 1) (by omega) (by omega) (hpf.trans a2) (own_base a3 hpf) q1 (by omega) (by omega) (fun w w1 w2 => by omega) (by omega)
        push_cast at b1
        refine ⟨u', H', ?_, b2, b3⟩
        simp (disch := omega) only [spec_NarrowAll.l2, dt, cond_true, cond_false, a1, h2, Option.bind_some, AV.toS, AV.toB, if_true, wr (n := (r : Int) + 1), b1]
        simp only [List.length_cons]
        congr 6
        push_cast; omega
    · have hno : nextFrom (narrowV n given (rs.map R.val)) a most 1 = none := (next_none most 1).2 fun w w1 w2 => hw w w1 (by omega)
      rw [runS_none hno]
      refine ⟨u, H, ?_, hpf, ho⟩
      simp (disch := omega) only [spec_NarrowAll.l2, spec_NarrowAll.j3, df, cond_false, List.length_nil, Nat.add_zero]
theorem specNarrowAll_ok {k : Nat} (hk : 2000070 ≤ k) {H : Hp} {n : Int} {gs s ms : Sl} {given l : List Int} {rs : List R} (hz : PuzAt H n gs s given rs) (hm : Reads .i64 H ms l) (hl : l.length ≤ 1000) (most : Int) :
    ∃ u H', callF PP orc k spec_NarrowAll.id [.agg [.int .i64 n, .sl 1 gs, .sl 3 s], .sl 1 ms, .int .i64 most] H = some (.tup [.sl 1 u, .int .i64 (allV n given (rs.map R.val) l most).2], H') ∧ H <+: H' ∧ Own 1 H H' u ((allV n given (rs.map R.val) l most).1.map (.int .i64)) := by
  obtain ⟨k, rfl⟩ : ∃ q, k = q + 1 := ⟨k - 1, by omega⟩
  rw [spec_NarrowAll.call]
  have hn := hz.n4
  have h1 := specPuzzleValid_ok (show 2000003 ≤ k by omega) hz.n4 hz.rg hz.gl hz.rr hz.rl hz.rc
  rw [puzzle_map] at h1
  have h2 := specMasksValid_any (show 2000000 ≤ k by omega) (n := n) (by omega) hm hl
  have h3 := l1In_ok (show 1 ≤ k by omega) most 1 4 H
  unfold allV
  cases e1 : puzzleV n given (rs.map R.val) with
  | false =>
    rw [e1] at h1
    rw [iN (by simp)]
    exact ⟨Sl.mk false H.length 0 0, H ++ [some (Blk.mk false [])], by simp only [spec_NarrowAll.f, spec_NarrowAll.j0, dt, df, bt, bf, nt, nf, Bool.and_self, Bool.not_true, Bool.not_false, cond_true, cond_false, Int.toNat_natCast, Int.toNat_zero, Int.toNat_one, Option.bind_some, wr, AV.toB, AV.toI, AV.toS, if_true, h1], (List.prefix_append _ _), own_new 1 H [] 0 rfl⟩
  | true =>
    rw [e1] at h1
    cases e2 : masksOk n l with
    | false =>
      rw [e2] at h2
      rw [iN (by simp)]
      exact ⟨Sl.mk false H.length 0 0, H ++ [some (Blk.mk false [])], by simp only [spec_NarrowAll.f, spec_NarrowAll.j0, dt, df, bt, bf, nt, nf, Bool.and_self, Bool.not_true, Bool.not_false, cond_true, cond_false, Int.toNat_natCast, Int.toNat_zero, Int.toNat_one, Option.bind_some, wr, AV.toB, AV.toI, AV.toS, if_true, h1, h2], (List.prefix_append _ _), own_new 1 H [] 0 rfl⟩
    | true =>
      rw [e2] at h2
      by_cases c : 1 ≤ most ∧ most ≤ 4
      · rw [decide_eq_true c] at h3
        rw [ip ⟨rfl, rfl, c⟩]
        obtain ⟨M, rfl⟩ := Int.eq_ofNat_of_zero_le (show 0 ≤ most by omega)
        have h4 := l6Copy_ok (show 1 ≤ k by omega) hm hl
        have hnew := own_new 1 H (l.map (.int .i64)) l.length (by simp)
        have ht := total_le e2
        obtain ⟨u', H', b1, b2, b3⟩ := NarrowAll_l2 (show 2000060 ≤ k by omega) hz e1 (most := M) (by omega) (5 * total l + M) k (H ++ [some (Blk.mk false (l.map (.int .i64)))]) _ l 1 0 (by omega) (by omega) (List.prefix_append _ _) hnew e2 (by omega) (by omega) (fun w w1 w2 => by omega) (by omega)
        rw [Int.toNat_natCast]
        refine ⟨u', H', ?_, b2, b3⟩
        rw [Nat.zero_add] at b1
        simp only [spec_NarrowAll.f, spec_NarrowAll.j0, spec_NarrowAll.j1, dt, df, bt, bf, nt, nf, Bool.and_self, Bool.not_true, Bool.not_false, cond_true, cond_false, Int.toNat_natCast, Int.toNat_zero, Int.toNat_one, Option.bind_some, wr, AV.toB, AV.toI, AV.toS, if_true, h1, h2, h3, h4]
        exact b1
      · rw [decide_eq_false c] at h3
        rw [iN (fun h => c ⟨h.2.2.1, h.2.2.2⟩)]
        exact ⟨Sl.mk false H.length 0 0, H ++ [some (Blk.mk false [])], by simp only [spec_NarrowAll.f, spec_NarrowAll.j0, dt, df, bt, bf, nt, nf, Bool.and_self, Bool.not_true, Bool.not_false, cond_true, cond_false, Int.toNat_natCast, Int.toNat_zero, Int.toNat_one, Option.bind_some, wr, AV.toB, AV.toI, AV.toS, if_true, h1, h2, h3], (List.prefix_append _ _), own_new 1 H [] 0 rfl⟩
end Go.Proofs.Ytjojhbdghhmeeaa.Rp
/- Functions of the program as plain Lean functions. No conditions. -/
set_option linter.unusedVariables false
set_option linter.unusedSimpArgs false
set_option maxRecDepth 100000
namespace Go.Proofs.Ytjojhbdghhmeeaa.Rp
open Go Go.Proofs.Ytjojhbdghhmeeaa.Ab
noncomputable def spec_l20Masks.body : Code := (Go.Proofs.Try.f82).body.getD .skip
noncomputable def spec_l20Masks.j3 (rec : Rec) (k : Nat) (x6 : Int) (x7 : Sl) (H : Hp) : An := some (.tup [.sl 1 x7, .int .i64 x6], H)
noncomputable def spec_l20Masks.j2 (rec : Rec) (k : Nat) (x0b : Nat) (x0o : Nat) (x1 : Int) (x6 : Int) (x7 : Sl) (H : Hp) : An := (rec spec_l20Rd_odd.id [.ptr x0b x0o, .int .i64 x1] H).bind fun r25 => r25.1.toB.bind fun b26 => bif b26 then (rec spec_l20Rd_pick.id [.ptr x0b x0o, .int .i64 3] r25.2).bind fun r27 => (r27.1.toI .i64).bind fun n28 => bif n28 == 0 then if (IntKind.i64.wrap (x6 + 1) : Int) < 0 then none else (rec spec_l20Rd_pick.id [.ptr x0b x0o, .int .i64 (x7.len : Int)] r27.2).bind fun r29 => (r29.1.toI .i64).bind fun n30 => (rec spec_l20Rd_pick.id [.ptr x0b x0o, .int .i64 3] r29.2).bind fun r31 => (r31.1.toI .i64).bind fun n32 => bif decide (0 ≤ (n32 : Int)) && decide ((n32 : Int) < ((3 : Nat) : Int)) then (([.int .i64 (-2), .int .i64 1, .int .i64 (IntKind.i64.wrap (1 * 2 ^ (min (IntKind.i64.wrap (x6 + 1) : Int).toNat IntKind.i64.bits)))] : List AV)[(n32 : Int).toNat * 1]?).bind fun v33 => bif v33.cell then (v33.toI .i64).bind fun n34 => bif decide (0 ≤ (n30 : Int)) && decide ((n30 : Int) < x7.len) then (r31.2.sto x7.blk (x7.off + (n30 : Int).toNat * 1) [.int .i64 n34]).bind fun H35 => spec_l20Masks.j3 rec k x6 x7 H35 else none else none else none else bif n28 == 1 then if (0 ≤ (1 : Int) ∧ (1 : Int) ≤ (x7.len : Int) ∧ ((x7.len : Int) : Int) ≤ x7.len ∧ ((x7.len : Int) : Int) = (x7.len : Int)) ∧ 0 < 1 ∧ true = true then spec_l20Masks.j3 rec k x6 (Sl.mk x7.nil x7.blk (x7.off + (1 : Int).toNat * 1) (((x7.len : Int) : Int) - 1).toNat) r27.2 else none else (rec spec_l20Size.id [.ptr x0b x0o, .int .i64 1] r27.2).bind fun r36 => (r36.1.toI .i64).bind fun n37 => spec_l20Masks.j3 rec k n37 x7 r36.2 else spec_l20Masks.j3 rec k x6 x7 r25.2
noncomputable def spec_l20Masks.j1 (rec : Rec) (k : Nat) (x0b : Nat) (x0o : Nat) (x1 : Int) (x6 : Int) (x7 : Sl) (H : Hp) : An := (rec spec_l20Rd_pick.id [.ptr x0b x0o, .int .i64 2] H).bind fun r12 => (r12.1.toI .i64).bind fun n13 => bif n13 == 0 then (rec spec_l20Puzzle.id [.ptr x0b x0o, .int .i64 0] r12.2).bind fun r14 => bif r14.1.isAgg 3 then ((r14.1.cel 0).toI .i64).bind fun n15 => ((r14.1.cel 1).toS 1).bind fun s16 => ((r14.1.cel 2).toS 3).bind fun s17 => (rec spec_StartMasks.id [.agg [.int .i64 n15, .sl 1 s16, .sl 3 s17]] r14.2).bind fun r18 => (r18.1.toS 1).bind fun s19 => (rec spec_l20Rd_pick.id [.ptr x0b x0o, .int .i64 2] r18.2).bind fun r20 => (r20.1.toI .i64).bind fun n21 => (rec spec_NarrowAll.id [.agg [.int .i64 n15, .sl 1 s16, .sl 3 s17], .sl 1 s19, .int .i64 (IntKind.i64.wrap (1 + n21))] r20.2).bind fun r22 => bif r22.1.isTup 2 then ((r22.1.nth 0).toS 1).bind fun s23 => ((r22.1.nth 1).toI .i64).bind fun n24 => spec_l20Masks.j2 rec k x0b x0o x1 n15 s23 r22.2 else none else none else spec_l20Masks.j2 rec k x0b x0o x1 x6 x7 r12.2
noncomputable def spec_l20Masks.l0 (rec : Rec) (k : Nat) : Nat → Nat → Nat → Int → Int → Sl → Int → Hp → An
  | 0, _, _, _, _, _, _, _ => none
  | n + 1, x0b, x0o, x1, x6, x7, x8, H => bif decide (x8 < (IntKind.i64.wrap (x6 * x6))) then if (x6 : Int) < 0 then none else if (IntKind.i64.wrap (x6 + 1) : Int) < 0 then none else (rec spec_l20Rd_pick.id [.ptr x0b x0o, .int .i64 (IntKind.i64.wrap (1 * 2 ^ (min (x6 : Int).toNat IntKind.i64.bits)))] H).bind fun r3 => (r3.1.toI .i64).bind fun n4 => (rec spec_l20Rd_pick.id [.ptr x0b x0o, .int .i64 x6] r3.2).bind fun r5 => (r5.1.toI .i64).bind fun n6 => if (IntKind.i64.wrap (1 + n6) : Int) < 0 then none else (rec spec_l20Rd_pick.id [.ptr x0b x0o, .int .i64 3] r5.2).bind fun r7 => (r7.1.toI .i64).bind fun n8 => bif decide (0 ≤ (n8 : Int)) && decide ((n8 : Int) < ((3 : Nat) : Int)) then (([.int .i64 (IntKind.i64.wrap (n4 * 2)), .int .i64 (IntKind.i64.wrap ((IntKind.i64.wrap (1 * 2 ^ (min (IntKind.i64.wrap (x6 + 1) : Int).toNat IntKind.i64.bits))) - 2)), .int .i64 (IntKind.i64.wrap (1 * 2 ^ (min (IntKind.i64.wrap (1 + n6) : Int).toNat IntKind.i64.bits)))] : List AV)[(n8 : Int).toNat * 1]?).bind fun v9 => bif v9.cell then (v9.toI .i64).bind fun n10 => (r7.2.app 1 x7 1 [.int .i64 n10]).bind fun w11 => (spec_l20Masks.l0 rec k n) x0b x0o x1 x6 w11.1 (IntKind.i64.wrap (x8 + 1)) w11.2 else none else none else spec_l20Masks.j1 rec k x0b x0o x1 x6 x7 H
noncomputable def spec_l20Masks.f (rec : Rec) (k : Nat) (a0b : Nat) (a0o : Nat) (a1 : Int) (H : Hp) : An := (rec spec_l20Size.id [.ptr a0b a0o, .int .i64 0] H).bind fun r1 => (r1.1.toI .i64).bind fun n2 => spec_l20Masks.l0 rec k k a0b a0o a1 n2 (Sl.mk false r1.2.length 0 0) 0 (r1.2 ++ [some (Blk.mk false [])])
theorem spec_l20Masks.j3_eq (rec : Rec) (k : Nat) : ∀ x6 x7 H, spec_l20Masks.j3 rec k x6 x7 H = ex PP (orc spec_l20Masks.id) rec k (sub spec_l20Masks.body [1, 1, 1, 1, 1, 1]) (St.of 88 [(6, .int .i64 x6), (7, .sl 1 x7)] []) H (kAt PP (orc spec_l20Masks.id) rec k spec_l20Masks.body [1, 1, 1, 1, 1, 1] [] (K0 PP Go.Proofs.Try.f82)) := by
  intros x6 x7 H
  unfold spec_l20Masks.j3
  kernel_rfl
theorem spec_l20Masks.j2_eq (rec : Rec) (k : Nat) : ∀ x0b x0o x1 x6 x7 H, spec_l20Masks.j2 rec k x0b x0o x1 x6 x7 H = ex PP (orc spec_l20Masks.id) rec k (sub spec_l20Masks.body [1, 1, 1, 1, 1]) (St.of 88 [(0, .ptr x0b x0o), (1, .int .i64 x1), (6, .int .i64 x6), (7, .sl 1 x7)] []) H (kAt PP (orc spec_l20Masks.id) rec k spec_l20Masks.body [1, 1, 1, 1, 1] [] (K0 PP Go.Proofs.Try.f82)) := by
  intros x0b x0o x1 x6 x7 H
  unfold spec_l20Masks.j2
  try simp only [spec_l20Masks.j3_eq rec k, -eq_self]
  kernel_rfl
theorem spec_l20Masks.j1_eq (rec : Rec) (k : Nat) : ∀ x0b x0o x1 x6 x7 H, spec_l20Masks.j1 rec k x0b x0o x1 x6 x7 H = ex PP (orc spec_l20Masks.id) rec k (sub spec_l20Masks.body [1, 1, 1, 1]) (St.of 88 [(0, .ptr x0b x0o), (1, .int .i64 x1), (6, .int .i64 x6), (7, .sl 1 x7)] []) H (kAt PP (orc spec_l20Masks.id) rec k spec_l20Masks.body [1, 1, 1, 1] [] (K0 PP Go.Proofs.Try.f82)) := by
  intros x0b x0o x1 x6 x7 H
  unfold spec_l20Masks.j1
  try simp only [spec_l20Masks.j2_eq rec k, -eq_self]
  kernel_rfl
theorem spec_l20Masks.l0_eq (rec : Rec) (k : Nat) : ∀ n x0b x0o x1 x6 x7 x8 H, spec_l20Masks.l0 rec k n x0b x0o x1 x6 x7 x8 H = iter ((orc spec_l20Masks.id).at (lbody (sub spec_l20Masks.body [1, 1, 1, 0, 1, 0]))) (ex PP (orc spec_l20Masks.id) rec k (lbody (sub spec_l20Masks.body [1, 1, 1, 0, 1, 0]))) (kAt PP (orc spec_l20Masks.id) rec k spec_l20Masks.body [1, 1, 1, 0, 1, 0] [] (K0 PP Go.Proofs.Try.f82)) n (St.of 88 [(0, .ptr x0b x0o), (1, .int .i64 x1), (6, .int .i64 x6), (7, .sl 1 x7), (8, .int .i64 x8)] []) H := by
  intro n
  induction n with
  | zero => intros; rfl
  | succ n ih =>
    intros x0b x0o x1 x6 x7 x8 H
    simp only [spec_l20Masks.l0, spec_l20Masks.j1_eq rec k, ih, -eq_self]
    kernel_rfl
theorem spec_l20Masks.f_eq (rec : Rec) (k : Nat) : ∀ a0b a0o a1 H, spec_l20Masks.f rec k a0b a0o a1 H = ex PP (orc spec_l20Masks.id) rec k spec_l20Masks.body (St.of 88 [(0, .ptr a0b a0o), (1, .int .i64 a1)] []) H (K0 PP Go.Proofs.Try.f82) := by
  intros a0b a0o a1 H
  unfold spec_l20Masks.f
  try simp only [spec_l20Masks.l0_eq rec k, -eq_self]
  kernel_rfl
theorem spec_l20Masks.call (k : Nat) : ∀ a0b a0o a1 H, callF PP orc (k + 1) spec_l20Masks.id [.ptr a0b a0o, .int .i64 a1] H = spec_l20Masks.f (callF PP orc k) k a0b a0o a1 H := by
  intros a0b a0o a1 H
  rw [callF_at (fn := Go.Proofs.Try.f82) (c := spec_l20Masks.body) Go.Proofs.Try.func82 (by kernel_rfl) (Nat.le_of_ble_eq_true (by kernel_rfl)), spec_l20Masks.f_eq]
  kernel_rfl
end Go.Proofs.Ytjojhbdghhmeeaa.Rp
