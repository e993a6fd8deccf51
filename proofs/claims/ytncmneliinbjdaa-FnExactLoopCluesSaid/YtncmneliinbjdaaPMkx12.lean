/- Functions of the program as plain Lean functions, and what a call of each comes to. No conditions. -/
import Derived.Test.YtncmneliinbjdaaPMkx0
import Derived.Test.YtncmneliinbjdaaPMkx11
namespace Go.Proofs.Ytncmneliinbjdaa.PMk
open Go.RowKit Go.Proofs.YtncmneliinbjdaaW.PrintWords Go.Proofs.YtncmneliinbjdaaW.PrintLast Go.Proofs.YtncmneliinbjdaaW.PrintMore
attribute [local go_sem] max2_int min2_int max_two min_two max_three min_three max_four min_four   -- for this text's walks alone
set_option linter.unusedVariables false
set_option linter.unusedSimpArgs false

/-! ### spec_LoopClues: function 19 -/
mutual
def spec_LoopClues.l0 : Nat → List Int → Int → Int → Int → List (List Bool) → List (List Bool) → Option (List Int)
  | 0, _, _, _, _, _, _ => none
  | k + 1, x3, x4, x122000, x122001, x122002, x122003 => (spec_LoopValid.f k x122000 x122001 x122002 x122003).bind fun t125 => (if t125 = true then (spec_LoopClues.j1 k x3 x4 (decide (x4 < (wrap64 (x122000 * x122001)))) x122000 x122001 x122002 x122003) else (spec_LoopClues.j1 k x3 x4 false x122000 x122001 x122002 x122003))
def spec_LoopClues.j1 : Nat → List Int → Int → Bool → Int → Int → List (List Bool) → List (List Bool) → Option (List Int)
  | 0, _, _, _, _, _, _, _ => none
  | k + 1, x3, x4, x21, x122000, x122001, x122002, x122003 => if x21 = true then (if x122001 = 0 then (none) else (if 0 ≤ (wrap64 (Int.tdiv x4 x122001)) then (if (wrap64 (Int.tdiv x4 x122001)) < (x122002.length : Int) then (if 0 ≤ (Int.tmod x4 x122001) then (if (Int.tmod x4 x122001) < ((rd_L1 x122002 (wrap64 (Int.tdiv x4 x122001))).length : Int) then (if 0 ≤ (wrap64 ((wrap64 (Int.tdiv x4 x122001)) + 1)) then (if (wrap64 ((wrap64 (Int.tdiv x4 x122001)) + 1)) < (x122002.length : Int) then (if (Int.tmod x4 x122001) < ((rd_L1 x122002 (wrap64 ((wrap64 (Int.tdiv x4 x122001)) + 1))).length : Int) then (if (Int.tmod x4 x122001) < (x122003.length : Int) then (if (wrap64 (Int.tdiv x4 x122001)) < ((rd_L1 x122003 (Int.tmod x4 x122001)).length : Int) then (if 0 ≤ (wrap64 ((Int.tmod x4 x122001) + 1)) then (if (wrap64 ((Int.tmod x4 x122001) + 1)) < (x122003.length : Int) then (if (wrap64 (Int.tdiv x4 x122001)) < ((rd_L1 x122003 (wrap64 ((Int.tmod x4 x122001) + 1))).length : Int) then (spec_LoopClues.l1 k x3 x4 (([rdOf false (rd_L1 x122002 (wrap64 (Int.tdiv x4 x122001))) (Int.tmod x4 x122001), rdOf false (rd_L1 x122002 (wrap64 ((wrap64 (Int.tdiv x4 x122001)) + 1))) (Int.tmod x4 x122001), rdOf false (rd_L1 x122003 (Int.tmod x4 x122001)) (wrap64 (Int.tdiv x4 x122001)), rdOf false (rd_L1 x122003 (wrap64 ((Int.tmod x4 x122001) + 1))) (wrap64 (Int.tdiv x4 x122001))] : List Bool)) 0 0 x122000 x122001 x122002 x122003) else (none)) else (none)) else (none)) else (none)) else (none)) else (none)) else (none)) else (none)) else (none)) else (none)) else (none)) else (none))) else (some x3)
def spec_LoopClues.l1 : Nat → List Int → Int → List Bool → Int → Int → Int → Int → List (List Bool) → List (List Bool) → Option (List Int)
  | 0, _, _, _, _, _, _, _, _, _ => none
  | k + 1, x3, x4, x7, x8, x9, x122000, x122001, x122002, x122003 => if x9 < 4 then (if 0 ≤ x9 then (if x9 < (x7.length : Int) then (if rdOf false x7 x9 = true then (spec_LoopClues.l1 k x3 x4 x7 (wrap64 (x8 + 1)) (wrap64 (x9 + 1)) x122000 x122001 x122002 x122003) else (spec_LoopClues.l1 k x3 x4 x7 x8 (wrap64 (x9 + 1)) x122000 x122001 x122002 x122003)) else (none)) else (none)) else (if x3.length < 17592186044416 then (spec_LoopClues.l0 k (x3 ++ [x8]) (wrap64 (x4 + 1)) x122000 x122001 x122002 x122003) else (none))
end
def spec_LoopClues.f (k : Nat) (a0_0 : Int) (a0_1 : Int) (l0_2 : List (List Bool)) (l0_3 : List (List Bool)) : Option (List Int) := spec_LoopClues.l0 k (([] : List Int)) 0 a0_0 a0_1 l0_2 l0_3
theorem spec_LoopClues.mono_l : ∀ k, (∀ y0 y1 y2 y3 y4 y5, LeO (spec_LoopClues.l0 k y0 y1 y2 y3 y4 y5) (spec_LoopClues.l0 (k + 1) y0 y1 y2 y3 y4 y5)) ∧ (∀ y0 y1 y2 y3 y4 y5 y6, LeO (spec_LoopClues.j1 k y0 y1 y2 y3 y4 y5 y6) (spec_LoopClues.j1 (k + 1) y0 y1 y2 y3 y4 y5 y6)) ∧ (∀ y0 y1 y2 y3 y4 y5 y6 y7 y8, LeO (spec_LoopClues.l1 k y0 y1 y2 y3 y4 y5 y6 y7 y8) (spec_LoopClues.l1 (k + 1) y0 y1 y2 y3 y4 y5 y6 y7 y8))
  | 0 => ⟨fun _ _ _ _ _ _ r h => by simp [spec_LoopClues.l0] at h, fun _ _ _ _ _ _ _ r h => by simp [spec_LoopClues.j1] at h, fun _ _ _ _ _ _ _ _ _ r h => by simp [spec_LoopClues.l1] at h⟩
  | k + 1 => by
    obtain ⟨ih0, ih1, ih2⟩ := spec_LoopClues.mono_l k
    refine ⟨?_, ?_, ?_⟩
    · intro y0 y1 y2 y3 y4 y5
      unfold spec_LoopClues.l0
      repeat' first
      | (with_reducible exact ih0 _ _ _ _ _ _)
      | (with_reducible exact ih1 _ _ _ _ _ _ _)
      | (with_reducible exact ih2 _ _ _ _ _ _ _ _ _)
      | (with_reducible exact spec_LoopValid.mono _ _ _ _ _)
      | (with_reducible exact LeO.refl _)
      | (with_reducible exact LeO.none _)
      | (with_reducible refine LeO.ite ?_ ?_)
      | (with_reducible refine LeO.bind ?_ (fun _ => ?_))
      | exact ih0 _ _ _ _ _ _
      | exact ih1 _ _ _ _ _ _ _
      | exact ih2 _ _ _ _ _ _ _ _ _
      | exact spec_LoopValid.mono _ _ _ _ _
      | exact LeO.none _
      | refine LeO.ite ?_ ?_
      | refine LeO.bind ?_ (fun _ => ?_)
    · intro y0 y1 y2 y3 y4 y5 y6
      unfold spec_LoopClues.j1
      repeat' first
      | (with_reducible exact ih0 _ _ _ _ _ _)
      | (with_reducible exact ih1 _ _ _ _ _ _ _)
      | (with_reducible exact ih2 _ _ _ _ _ _ _ _ _)
      | (with_reducible exact spec_LoopValid.mono _ _ _ _ _)
      | (with_reducible exact LeO.refl _)
      | (with_reducible exact LeO.none _)
      | (with_reducible refine LeO.ite ?_ ?_)
      | (with_reducible refine LeO.bind ?_ (fun _ => ?_))
      | exact ih0 _ _ _ _ _ _
      | exact ih1 _ _ _ _ _ _ _
      | exact ih2 _ _ _ _ _ _ _ _ _
      | exact spec_LoopValid.mono _ _ _ _ _
      | exact LeO.none _
      | refine LeO.ite ?_ ?_
      | refine LeO.bind ?_ (fun _ => ?_)
    · intro y0 y1 y2 y3 y4 y5 y6 y7 y8
      unfold spec_LoopClues.l1
      repeat' first
      | (with_reducible exact ih0 _ _ _ _ _ _)
      | (with_reducible exact ih1 _ _ _ _ _ _ _)
      | (with_reducible exact ih2 _ _ _ _ _ _ _ _ _)
      | (with_reducible exact spec_LoopValid.mono _ _ _ _ _)
      | (with_reducible exact LeO.refl _)
      | (with_reducible exact LeO.none _)
      | (with_reducible refine LeO.ite ?_ ?_)
      | (with_reducible refine LeO.bind ?_ (fun _ => ?_))
      | exact ih0 _ _ _ _ _ _
      | exact ih1 _ _ _ _ _ _ _
      | exact ih2 _ _ _ _ _ _ _ _ _
      | exact spec_LoopValid.mono _ _ _ _ _
      | exact LeO.none _
      | refine LeO.ite ?_ ?_
      | refine LeO.bind ?_ (fun _ => ?_)
theorem spec_LoopClues.mono : ∀ a0 a1 a2 a3 k, LeO (spec_LoopClues.f k a0 a1 a2 a3) (spec_LoopClues.f (k + 1) a0 a1 a2 a3) := by
  intro a0 a1 a2 a3 k
  obtain ⟨ih0, ih1, ih2⟩ := spec_LoopClues.mono_l k
  unfold spec_LoopClues.f
  repeat' first
      | (with_reducible exact ih0 _ _ _ _ _ _)
      | (with_reducible exact ih1 _ _ _ _ _ _ _)
      | (with_reducible exact ih2 _ _ _ _ _ _ _ _ _)
      | (with_reducible exact spec_LoopValid.mono _ _ _ _ _)
      | (with_reducible exact LeO.refl _)
      | (with_reducible exact LeO.none _)
      | (with_reducible refine LeO.ite ?_ ?_)
      | (with_reducible refine LeO.bind ?_ (fun _ => ?_))
      | exact ih0 _ _ _ _ _ _
      | exact ih1 _ _ _ _ _ _ _
      | exact ih2 _ _ _ _ _ _ _ _ _
      | exact spec_LoopValid.mono _ _ _ _ _
      | exact LeO.none _
      | refine LeO.ite ?_ ?_
      | refine LeO.bind ?_ (fun _ => ?_)
def spec_LoopClues.T7 : Bool × List (List Nat × List Nat) := (true, [([], []), ([0], [0]), ([], []), ([1, 2], [1, 2]), ([3], [3]), ([], []), ([4, 5], [4, 5]), ([6], [6]), ([], []), ([8], [8]), ([], []), ([10], [10]), ([9, 11], [9, 11]), ([12], [12]), ([], []), ([13, 14], [13, 14]), ([15], [15]), ([], []), ([17], [17]), ([], []), ([18, 19], [18, 19]), ([20], [20]), ([], []), ([21, 22], [21, 22]), ([23], [23]), ([], []), ([25], [25]), ([], []), ([27], [27]), ([26, 28], [26, 28]), ([29], [29]), ([], []), ([30, 31], [30, 31]), ([32], [32]), ([7, 16, 24, 33], [7, 16, 24, 33]), ([34, 0, 1, 2, 3, 4, 5, 6, 7, 8, 9, 10, 11, 12, 13, 14, 15, 16, 17, 18, 19, 20, 21, 22, 23, 24, 25, 26, 27, 28, 29, 30, 31, 32, 33, 34], [34])])
def spec_LoopClues.B7 : List Nat := [0, 1, 0, 7, 15, 0, 63, 127, 0, 256, 0, 1024, 3840, 7936, 0, 32512, 65280, 0, 131072, 0, 917504, 1966080, 0, 8257536, 16646144, 0, 33554432, 0, 134217728, 503316480, 1040187392, 0, 4261412864, 8556380160, 17179869183, 34359738367]
theorem spec_LoopClues.tab7 : rtab .any (opsOf Try.f19 7) = spec_LoopClues.T7 := by kernel_rfl
theorem spec_LoopClues.bits7 : waitsOk spec_LoopClues.T7.2 spec_LoopClues.B7 = true := by kernel_rfl
set_option maxHeartbeats 8000000 in
set_option maxRecDepth 100000 in
theorem spec_LoopClues.calls (k : Nat) (a0_0 : Int) (a0_1 : Int) (A0_2 : Option Addr) (c0_2 : Nat) (l0_2 : List (List Bool)) (A0_3 : Option Addr) (c0_3 : Nat) (l0_3 : List (List Bool)) (r : List Int) (w : World) (hr0_2 : Kd.C (Kd.slice 4 Kd.bool) w A0_2 l0_2.length l0_2) (hc0_2 : l0_2.length ≤ c0_2) (hr0_3 : Kd.C (Kd.slice 4 Kd.bool) w A0_3 l0_3.length l0_3) (hc0_3 : l0_3.length ≤ c0_3) (h : spec_LoopClues.f k a0_0 a0_1 l0_2 l0_3 = some r) :
    Calls Try.prog 19 #[.agg #[.int .i64 a0_0, .int .i64 a0_1, .slice A0_2 l0_2.length c0_2, .slice A0_3 l0_3.length c0_3]] w fun e w' => ∃ v0_ : Value, e = .returned (v0_) ∧ Kd.R (Kd.int .i64) 3 w' w.heap.size (fun _ => True) v0_ r ∧ Below w.heap.size w w' := by
  have hu25 := Try.underlying25
  have HR0_2 := Aside0.mk hr0_2
  have HC0_2 := Aside0.mk hc0_2
  clear hr0_2 hc0_2
  have HR0_3 := Aside0.mk hr0_3
  have HC0_3 := Aside0.mk hc0_3
  clear hr0_3 hc0_3
  have HB := Aside0.mk (Below.refl w.heap.size w)
  have H : (spec_LoopClues.l0 k (([] : List Int)) 0 a0_0 a0_1 l0_2 l0_3) = some r := h
  clear h
  obtain ⟨y122, hy122⟩ : ∃ y_ : List Int, y_ = (([] : List Int)) := ⟨_, rfl⟩
  replace H : (spec_LoopClues.l0 k y122 0 a0_0 a0_1 l0_2 l0_3) = some r := by first | (rw [hy122]; with_reducible exact H) | (have H2_ := (Option.bind_some _ _).symm.trans H; rw [hy122]; with_reducible exact H2_) | (have H2_ := (Option.bind_some _ _).symm.trans H; with_reducible exact H2_) | with_reducible exact H | (rw [hy122]; exact H) | exact H
  have Ny122 := Aside0.mk hy122
  clear hy122
  have H' := Aside0.mk H
  clear H
  go_enter Try.func19, Try.ntmps19
  go_wp2_with (first | ((with_reducible refine gate_dst (N := 1) rfl ?_); refine box_event ?hg (N := 1) ?hd (cs := #[.int .i64 a0_0, .int .i64 a0_1, .slice A0_2 l0_2.length c0_2, .slice A0_3 l0_3.length c0_3]) (t := 25) ?hr ?_; (case hd => rfl); (case hg => rfl); (case hr => first | (go_simp; done) | (go_simp; rfl)); intro gb121 hg w2 hbox hb; have n0_ := Aside0.mk (below_step (by repeat (first | (with_reducible first | exact HB.out | apply below_alloc | apply pw_below_drewN | apply below_drew1) | exact HB.out)) hb); have n1_ := Aside0.mk (hbox); have n2_ := Aside0.mk ((by rw [hg]; exact (below_size (by repeat (first | (with_reducible first | exact HB.out | apply below_alloc | apply pw_below_drewN | apply below_drew1) | exact HB.out))) : w.heap.size ≤ gb121)); have n3_ := Aside0.mk ((by rw [hg]; exact (below_size (by repeat (first | (with_reducible first | exact HB.out | apply below_alloc | apply pw_below_drewN | apply below_drew1) | exact HB.out))) : w.heap.size ≤ gb121)); clear HB; have HB := n0_; have BK121 := n1_; have GW121 := n2_; have GE121 := n3_; clear n0_ n1_ n2_ n3_; clear hb hbox hg) | ((with_reducible refine gate_dst (N := 10) rfl ?_); refine Kd.R_lit (Kd.int .i64) _ 3 ?hg (N := 10) ?hd (xs := ([] : List Int)) (inner := []) (ok := fun _ => True) (okp := fun _ => True) ?hr ?hp (fun _ hk => hk) trivial (Below.refl _ _) (Nat.le_refl _) (by simp) ?_; (case hd => rfl); (case hg => rfl); (case hr => first | (go_simp; done) | (go_simp; rfl)); (case hp => exact (Reps.none _ _)); intro v123 w3 ho4 hb hg_ hnew_; clear hg_ hnew_; (first | rw [← Ny122.out] at ho4 | (simp only [Int.reduceToNat] at ho4; rw [← Ny122.out] at ho4)); have n0_ := Aside0.mk (Kd.R_lower ho4 (below_size (by repeat (first | (with_reducible first | exact HB.out | apply below_alloc | apply pw_below_drewN | apply below_drew1 | refine below_set ?_ GE121.out) | exact HB.out)))); have n1_ := Aside0.mk (blk_below (g := gb121) (o := .cells #[.int .i64 a0_0, .int .i64 a0_1, .slice A0_2 l0_2.length c0_2, .slice A0_3 l0_3.length c0_3] 25 (0, 0)) (by (with_reducible repeat (first | refine blk_drewN ?_ _ | refine blk_drew ?_ | refine blk_alloc ?_ _)); exact BK121.out) hb); have n2_ := Aside0.mk (below_step (by repeat (first | (with_reducible first | exact HB.out | apply below_alloc | apply pw_below_drewN | apply below_drew1 | refine below_set ?_ GE121.out) | exact HB.out)) hb); clear BK121; clear HB; have HO124 := n0_; have BK121 := n1_; have HB := n2_; clear n0_ n1_ n2_; clear hb ho4))
  go_loopg [3, 4] k (fun kq v3 v4 w' => ∃ (x3_1 : List Int) (x4_1 : Int), v4 = .int .i64 x4_1 ∧ Aside0 (spec_LoopClues.l0 kq x3_1 x4_1 a0_0 a0_1 l0_2 l0_3 = some r) ∧ Aside0 (kq ≤ k) ∧ Aside0 (Kd.R (Kd.int .i64) 3 w' w.heap.size (fun _ => True) v3 x3_1) ∧ Aside0 (w'.heap[gb121]? = some (.cells #[.int .i64 a0_0, .int .i64 a0_1, (.slice A0_2 l0_2.length c0_2), (.slice A0_3 l0_3.length c0_3)] 25 (0, 0))) ∧ Aside0 (Below w.heap.size w w'))
  case atStart => exact ⟨(y122), (0), (by first | rfl | (simp; done) | (simp [*]; done)), H', ⟨Nat.le_refl _⟩, ⟨by (with_reducible repeat (first | apply Kd.R_alloc | apply Kd.R_drewN | apply Kd.R_drew)); exact HO124.out⟩, ⟨by (with_reducible repeat (first | refine blk_drewN ?_ _ | refine blk_drew ?_ | refine blk_alloc ?_ _)); exact BK121.out⟩, ⟨by repeat (first | (with_reducible first | exact HB.out | apply below_alloc | apply pw_below_drewN | apply below_drew1 | refine below_set ?_ GE121.out) | exact HB.out)⟩⟩
  case round =>
    clear H'
    try clear c1
    try clear p2
    obtain ⟨x3_1, x4_1, rfl, HA, HK1, HO_3, BK121, HB⟩ := hrel
    cases gk with
    | zero => exact absurd HA.out (by simp [spec_LoopClues.l0])
    | succ k1 =>
      have H := HA.out
      clear HA
      simp only [spec_LoopClues.l0] at H
      have HC5 := Aside0.mk H
      clear H
      go_upto_region 3 with (fail)
      go_cut [21] (fun v21 wc => ∃ (kq : Nat) (x21_4 : Bool), v21 = .bool x21_4 ∧ Aside0 (spec_LoopClues.j1 kq x3_1 x4_1 x21_4 a0_0 a0_1 l0_2 l0_3 = some r) ∧ Aside0 (kq ≤ k1) ∧ Aside0 (Kd.R (Kd.int .i64) 3 wc w.heap.size (fun _ => True) u3 x3_1) ∧ Aside0 (wc.heap[gb121]? = some (.cells #[.int .i64 a0_0, .int .i64 a0_1, (.slice A0_2 l0_2.length c0_2), (.slice A0_3 l0_3.length c0_3)] 25 (0, 0))) ∧ Aside0 (Below w.heap.size w wc))
      case first =>
        have H := HC5.out
        clear HC5
        replace H := Option.bind_eq_some_iff.mp H
        obtain ⟨t125, A60, H⟩ := H
        replace H : (if t125 = true then (spec_LoopClues.j1 k1 x3_1 x4_1 (decide (x4_1 < (wrap64 (a0_0 * a0_1)))) a0_0 a0_1 l0_2 l0_3) else (spec_LoopClues.j1 k1 x3_1 x4_1 false a0_0 a0_1 l0_2 l0_3)) = some r := H
        have A6 := Aside0.mk A60
        clear A60
        by_cases c7 : t125 = true
        · subst c7
          have H1 : (spec_LoopClues.j1 k1 x3_1 x4_1 (decide (x4_1 < (wrap64 (a0_0 * a0_1)))) a0_0 a0_1 l0_2 l0_3) = some r := by rw [if_pos rfl] at H; exact H
          clear H
          have H := H1
          clear H1
          have H' := Aside0.mk H
          clear H
          have hcz8_0 : wr.cell? ⟨gb121, 0, none⟩ = some (.int .i64 a0_0) := (blk_cell BK121.out 0).trans rfl
          have hcz8_1 : wr.cell? ⟨gb121, 1, none⟩ = some (.int .i64 a0_1) := (blk_cell BK121.out 1).trans rfl
          have hcz8_2 : wr.cell? ⟨gb121, 2, none⟩ = some (.slice A0_2 l0_2.length c0_2) := (blk_cell BK121.out 2).trans rfl
          have hcz8_3 : wr.cell? ⟨gb121, 3, none⟩ = some (.slice A0_3 l0_3.length c0_3) := (blk_cell BK121.out 3).trans rfl
          have hfz8_0 := blk_frozen BK121.out 0
          have hfz8_1 := blk_frozen BK121.out 1
          have hfz8_2 := blk_frozen BK121.out 2
          have hfz8_3 := blk_frozen BK121.out 3
          go_wp2_with (first | ((with_reducible refine gate_callee (f := 46) rfl ?_); refine goesL_ (some 12) rfl rfl Try.func46 (by kernel_rfl) rfl #[.agg #[.int .i64 a0_0, .int .i64 a0_1, .slice A0_2 l0_2.length c0_2, .slice A0_3 l0_3.length c0_3]] rfl (by (try simp only [List.map_toArray, List.map_cons, List.map_nil]); first | done | rfl | (simp only [List.length_drop, List.length_take]; rfl)) ?_; (with_reducible refine (spec_LoopValid.calls k1 a0_0 a0_1 _ _ l0_2 _ _ l0_3 true _ ?side1 ?side2 ?side3 ?side4 A6.out).mono ?_); (case side1 => repeat (first | exact (Kd.C_below HR0_2.out HB.out) | (with_reducible refine Kd.C_alloc ?_ _) | (with_reducible refine Kd.C_drewN ?_ _) | (with_reducible refine Kd.C_drew ?_))); (case side2 => exact HC0_2.out); (case side3 => repeat (first | exact (Kd.C_below HR0_3.out HB.out) | (with_reducible refine Kd.C_alloc ?_ _) | (with_reducible refine Kd.C_drewN ?_ _) | (with_reducible refine Kd.C_drew ?_))); (case side4 => exact HC0_3.out); rintro e w9 ⟨rfl, hb⟩; refine ⟨_, rfl, ?_⟩; have n0_ := Aside0.mk (Kd.R_below (by (with_reducible repeat (first | apply Kd.R_alloc | apply Kd.R_drewN | apply Kd.R_drew)); exact HO_3.out) hb); have n1_ := Aside0.mk (blk_below (g := gb121) (o := .cells #[.int .i64 a0_0, .int .i64 a0_1, .slice A0_2 l0_2.length c0_2, .slice A0_3 l0_3.length c0_3] 25 (0, 0)) (by (with_reducible repeat (first | refine blk_drewN ?_ _ | refine blk_drew ?_ | refine blk_alloc ?_ _)); exact BK121.out) hb); have n2_ := Aside0.mk (below_step (by repeat (first | (with_reducible first | exact HB.out | apply below_alloc | apply pw_below_drewN | apply below_drew1 | refine below_set ?_ GE121.out) | exact HB.out)) hb); clear HO_3; clear BK121; clear HB; have HO_3 := n0_; have BK121 := n1_; have HB := n2_; clear n0_ n1_ n2_; (try clear hb); (try clear hb2); (try clear hk); (try clear hi); have hcz10_0 : w9.cell? ⟨gb121, 0, none⟩ = some (.int .i64 a0_0) := (blk_cell BK121.out 0).trans rfl; have hcz10_1 : w9.cell? ⟨gb121, 1, none⟩ = some (.int .i64 a0_1) := (blk_cell BK121.out 1).trans rfl; have hcz10_2 : w9.cell? ⟨gb121, 2, none⟩ = some (.slice A0_2 l0_2.length c0_2) := (blk_cell BK121.out 2).trans rfl; have hcz10_3 : w9.cell? ⟨gb121, 3, none⟩ = some (.slice A0_3 l0_3.length c0_3) := (blk_cell BK121.out 3).trans rfl; have hfz10_0 := blk_frozen BK121.out 0; have hfz10_1 := blk_frozen BK121.out 1; have hfz10_2 := blk_frozen BK121.out 2; have hfz10_3 := blk_frozen BK121.out 3))
          go_meet
          case rel => exact ⟨_, (decide (x4_1 < (wrap64 (a0_0 * a0_1)))), (by first | rfl | (simp; done) | (simp [*]; done)), H', ⟨by have := HK1.out; first | omega | exact Nat.le_refl _⟩, ⟨by (with_reducible repeat (first | apply Kd.R_alloc | apply Kd.R_drewN | apply Kd.R_drew)); exact HO_3.out⟩, ⟨by (with_reducible repeat (first | refine blk_drewN ?_ _ | refine blk_drew ?_ | refine blk_alloc ?_ _)); exact BK121.out⟩, ⟨by repeat (first | (with_reducible first | exact HB.out | apply below_alloc | apply pw_below_drewN | apply below_drew1 | refine below_set ?_ GE121.out) | exact HB.out)⟩⟩
        · replace c7 := Bool.eq_false_iff.mpr c7
          subst c7
          have H1 : (spec_LoopClues.j1 k1 x3_1 x4_1 false a0_0 a0_1 l0_2 l0_3) = some r := by rw [if_neg (show ¬ (false = true) by decide)] at H; exact H
          clear H
          have H := H1
          clear H1
          have H' := Aside0.mk H
          clear H
          have hcz11_0 : wr.cell? ⟨gb121, 0, none⟩ = some (.int .i64 a0_0) := (blk_cell BK121.out 0).trans rfl
          have hcz11_1 : wr.cell? ⟨gb121, 1, none⟩ = some (.int .i64 a0_1) := (blk_cell BK121.out 1).trans rfl
          have hcz11_2 : wr.cell? ⟨gb121, 2, none⟩ = some (.slice A0_2 l0_2.length c0_2) := (blk_cell BK121.out 2).trans rfl
          have hcz11_3 : wr.cell? ⟨gb121, 3, none⟩ = some (.slice A0_3 l0_3.length c0_3) := (blk_cell BK121.out 3).trans rfl
          have hfz11_0 := blk_frozen BK121.out 0
          have hfz11_1 := blk_frozen BK121.out 1
          have hfz11_2 := blk_frozen BK121.out 2
          have hfz11_3 := blk_frozen BK121.out 3
          go_wp2_with (first | ((with_reducible refine gate_callee (f := 46) rfl ?_); refine goesL_ (some 12) rfl rfl Try.func46 (by kernel_rfl) rfl #[.agg #[.int .i64 a0_0, .int .i64 a0_1, .slice A0_2 l0_2.length c0_2, .slice A0_3 l0_3.length c0_3]] rfl (by (try simp only [List.map_toArray, List.map_cons, List.map_nil]); first | done | rfl | (simp only [List.length_drop, List.length_take]; rfl)) ?_; (with_reducible refine (spec_LoopValid.calls k1 a0_0 a0_1 _ _ l0_2 _ _ l0_3 false _ ?side1 ?side2 ?side3 ?side4 A6.out).mono ?_); (case side1 => repeat (first | exact (Kd.C_below HR0_2.out HB.out) | (with_reducible refine Kd.C_alloc ?_ _) | (with_reducible refine Kd.C_drewN ?_ _) | (with_reducible refine Kd.C_drew ?_))); (case side2 => exact HC0_2.out); (case side3 => repeat (first | exact (Kd.C_below HR0_3.out HB.out) | (with_reducible refine Kd.C_alloc ?_ _) | (with_reducible refine Kd.C_drewN ?_ _) | (with_reducible refine Kd.C_drew ?_))); (case side4 => exact HC0_3.out); rintro e w12 ⟨rfl, hb⟩; refine ⟨_, rfl, ?_⟩; have n0_ := Aside0.mk (Kd.R_below (by (with_reducible repeat (first | apply Kd.R_alloc | apply Kd.R_drewN | apply Kd.R_drew)); exact HO_3.out) hb); have n1_ := Aside0.mk (blk_below (g := gb121) (o := .cells #[.int .i64 a0_0, .int .i64 a0_1, .slice A0_2 l0_2.length c0_2, .slice A0_3 l0_3.length c0_3] 25 (0, 0)) (by (with_reducible repeat (first | refine blk_drewN ?_ _ | refine blk_drew ?_ | refine blk_alloc ?_ _)); exact BK121.out) hb); have n2_ := Aside0.mk (below_step (by repeat (first | (with_reducible first | exact HB.out | apply below_alloc | apply pw_below_drewN | apply below_drew1 | refine below_set ?_ GE121.out) | exact HB.out)) hb); clear HO_3; clear BK121; clear HB; have HO_3 := n0_; have BK121 := n1_; have HB := n2_; clear n0_ n1_ n2_; (try clear hb); (try clear hb2); (try clear hk); (try clear hi)))
          go_meet
          case rel => exact ⟨_, (false), (by first | rfl | (simp; done) | (simp [*]; done)), H', ⟨by have := HK1.out; first | omega | exact Nat.le_refl _⟩, ⟨by (with_reducible repeat (first | apply Kd.R_alloc | apply Kd.R_drewN | apply Kd.R_drew)); exact HO_3.out⟩, ⟨by (with_reducible repeat (first | refine blk_drewN ?_ _ | refine blk_drew ?_ | refine blk_alloc ?_ _)); exact BK121.out⟩, ⟨by repeat (first | (with_reducible first | exact HB.out | apply below_alloc | apply pw_below_drewN | apply below_drew1 | refine below_set ?_ GE121.out) | exact HB.out)⟩⟩
      case rest =>
        clear HC5
        try clear c1
        try clear p2
        try clear c4
        try clear p6
        try clear c7
        try clear hcz10_0
        try clear hcz10_1
        try clear hcz10_2
        try clear hcz10_3
        try clear hcz11_0
        try clear hcz11_1
        try clear hcz11_2
        try clear hcz11_3
        try clear hcz8_0
        try clear hcz8_1
        try clear hcz8_2
        try clear hcz8_3
        try clear hfz10_0
        try clear hfz10_1
        try clear hfz10_2
        try clear hfz10_3
        try clear hfz11_0
        try clear hfz11_1
        try clear hfz11_2
        try clear hfz11_3
        try clear hfz8_0
        try clear hfz8_1
        try clear hfz8_2
        try clear hfz8_3
        try clear p2
        obtain ⟨kq, x21_4, rfl, HA, HJ4, HO_3, BK121, HB⟩ := hcut
        cases kq with
        | zero => exact absurd HA.out (by simp [spec_LoopClues.j1])
        | succ kj4 =>
          have H := HA.out
          clear HA
          simp only [spec_LoopClues.j1] at H
          by_cases c13 : x21_4 = true
          · subst c13
            have H1 : (if a0_1 = 0 then (none) else (if 0 ≤ (wrap64 (Int.tdiv x4_1 a0_1)) then (if (wrap64 (Int.tdiv x4_1 a0_1)) < (l0_2.length : Int) then (if 0 ≤ (Int.tmod x4_1 a0_1) then (if (Int.tmod x4_1 a0_1) < ((rd_L1 l0_2 (wrap64 (Int.tdiv x4_1 a0_1))).length : Int) then (if 0 ≤ (wrap64 ((wrap64 (Int.tdiv x4_1 a0_1)) + 1)) then (if (wrap64 ((wrap64 (Int.tdiv x4_1 a0_1)) + 1)) < (l0_2.length : Int) then (if (Int.tmod x4_1 a0_1) < ((rd_L1 l0_2 (wrap64 ((wrap64 (Int.tdiv x4_1 a0_1)) + 1))).length : Int) then (if (Int.tmod x4_1 a0_1) < (l0_3.length : Int) then (if (wrap64 (Int.tdiv x4_1 a0_1)) < ((rd_L1 l0_3 (Int.tmod x4_1 a0_1)).length : Int) then (if 0 ≤ (wrap64 ((Int.tmod x4_1 a0_1) + 1)) then (if (wrap64 ((Int.tmod x4_1 a0_1) + 1)) < (l0_3.length : Int) then (if (wrap64 (Int.tdiv x4_1 a0_1)) < ((rd_L1 l0_3 (wrap64 ((Int.tmod x4_1 a0_1) + 1))).length : Int) then (spec_LoopClues.l1 kj4 x3_1 x4_1 (([rdOf false (rd_L1 l0_2 (wrap64 (Int.tdiv x4_1 a0_1))) (Int.tmod x4_1 a0_1), rdOf false (rd_L1 l0_2 (wrap64 ((wrap64 (Int.tdiv x4_1 a0_1)) + 1))) (Int.tmod x4_1 a0_1), rdOf false (rd_L1 l0_3 (Int.tmod x4_1 a0_1)) (wrap64 (Int.tdiv x4_1 a0_1)), rdOf false (rd_L1 l0_3 (wrap64 ((Int.tmod x4_1 a0_1) + 1))) (wrap64 (Int.tdiv x4_1 a0_1))] : List Bool)) 0 0 a0_0 a0_1 l0_2 l0_3) else (none)) else (none)) else (none)) else (none)) else (none)) else (none)) else (none)) else (none)) else (none)) else (none)) else (none)) else (none))) = some r := by rw [if_pos rfl] at H; exact H
            clear H
            have H := H1
            clear H1
            by_cases c14 : a0_1 = 0
            · rw [if_pos c14] at H
              exact absurd H (by simp)
            · rw [if_neg c14] at H
              have c14b0 : (a0_1 == 0) = false := beq_eq_false_iff_ne.mpr c14
              have c14b1 : (a0_1 != 0) = true := bne_iff_ne.mpr c14
              obtain ⟨ji15, hji15⟩ : ∃ j_ : Int, (wrap64 (Int.tdiv x4_1 a0_1)) = j_ := ⟨_, rfl⟩
              replace H : (if 0 ≤ (ji15) then (if (ji15) < (l0_2.length : Int) then (if 0 ≤ (Int.tmod x4_1 a0_1) then (if (Int.tmod x4_1 a0_1) < ((rd_L1 l0_2 (ji15)).length : Int) then (if 0 ≤ (wrap64 ((ji15) + 1)) then (if (wrap64 ((ji15) + 1)) < (l0_2.length : Int) then (if (Int.tmod x4_1 a0_1) < ((rd_L1 l0_2 (wrap64 ((ji15) + 1))).length : Int) then (if (Int.tmod x4_1 a0_1) < (l0_3.length : Int) then (if (ji15) < ((rd_L1 l0_3 (Int.tmod x4_1 a0_1)).length : Int) then (if 0 ≤ (wrap64 ((Int.tmod x4_1 a0_1) + 1)) then (if (wrap64 ((Int.tmod x4_1 a0_1) + 1)) < (l0_3.length : Int) then (if (ji15) < ((rd_L1 l0_3 (wrap64 ((Int.tmod x4_1 a0_1) + 1))).length : Int) then (spec_LoopClues.l1 kj4 x3_1 x4_1 (([rdOf false (rd_L1 l0_2 (ji15)) (Int.tmod x4_1 a0_1), rdOf false (rd_L1 l0_2 (wrap64 ((ji15) + 1))) (Int.tmod x4_1 a0_1), rdOf false (rd_L1 l0_3 (Int.tmod x4_1 a0_1)) (ji15), rdOf false (rd_L1 l0_3 (wrap64 ((Int.tmod x4_1 a0_1) + 1))) (ji15)] : List Bool)) 0 0 a0_0 a0_1 l0_2 l0_3) else (none)) else (none)) else (none)) else (none)) else (none)) else (none)) else (none)) else (none)) else (none)) else (none)) else (none)) else (none)) = some r := by first | (rw [hji15] at H; exact H) | (simp only [hji15] at H ⊢; exact H)
              have hji15w : (IntKind.i64.wrap (Int.tdiv x4_1 a0_1)) = ji15 := (i64_w _).trans hji15
              by_cases c16 : 0 ≤ (ji15)
              · rw [if_pos c16] at H
                have c16b0 : decide (0 ≤ (ji15)) = true := decide_eq_true c16
                clear c16
                by_cases c17 : (ji15) < (l0_2.length : Int)
                · rw [if_pos c17] at H
                  have c17b0 : decide ((ji15) < (l0_2.length : Int)) = true := decide_eq_true c17
                  clear c17
                  obtain ⟨ji18, hji18⟩ : ∃ j_ : Int, (Int.tmod x4_1 a0_1) = j_ := ⟨_, rfl⟩
                  replace H : (if 0 ≤ (ji18) then (if (ji18) < ((rd_L1 l0_2 (ji15)).length : Int) then (if 0 ≤ (wrap64 ((ji15) + 1)) then (if (wrap64 ((ji15) + 1)) < (l0_2.length : Int) then (if (ji18) < ((rd_L1 l0_2 (wrap64 ((ji15) + 1))).length : Int) then (if (ji18) < (l0_3.length : Int) then (if (ji15) < ((rd_L1 l0_3 (ji18)).length : Int) then (if 0 ≤ (wrap64 ((ji18) + 1)) then (if (wrap64 ((ji18) + 1)) < (l0_3.length : Int) then (if (ji15) < ((rd_L1 l0_3 (wrap64 ((ji18) + 1))).length : Int) then (spec_LoopClues.l1 kj4 x3_1 x4_1 (([rdOf false (rd_L1 l0_2 (ji15)) (ji18), rdOf false (rd_L1 l0_2 (wrap64 ((ji15) + 1))) (ji18), rdOf false (rd_L1 l0_3 (ji18)) (ji15), rdOf false (rd_L1 l0_3 (wrap64 ((ji18) + 1))) (ji15)] : List Bool)) 0 0 a0_0 a0_1 l0_2 l0_3) else (none)) else (none)) else (none)) else (none)) else (none)) else (none)) else (none)) else (none)) else (none)) else (none)) = some r := by first | (rw [hji18] at H; exact H) | (simp only [hji18] at H ⊢; exact H)
                  by_cases c19 : 0 ≤ (ji18)
                  · rw [if_pos c19] at H
                    have c19b0 : decide (0 ≤ (ji18)) = true := decide_eq_true c19
                    clear c19
                    by_cases c20 : (ji18) < ((rd_L1 l0_2 (ji15)).length : Int)
                    · rw [if_pos c20] at H
                      have c20b0 : decide ((ji18) < ((rd_L1 l0_2 (ji15)).length : Int)) = true := decide_eq_true c20
                      clear c20
                      obtain ⟨ji21, hji21⟩ : ∃ j_ : Int, (wrap64 ((ji15) + 1)) = j_ := ⟨_, rfl⟩
                      replace H : (if 0 ≤ (ji21) then (if (ji21) < (l0_2.length : Int) then (if (ji18) < ((rd_L1 l0_2 (ji21)).length : Int) then (if (ji18) < (l0_3.length : Int) then (if (ji15) < ((rd_L1 l0_3 (ji18)).length : Int) then (if 0 ≤ (wrap64 ((ji18) + 1)) then (if (wrap64 ((ji18) + 1)) < (l0_3.length : Int) then (if (ji15) < ((rd_L1 l0_3 (wrap64 ((ji18) + 1))).length : Int) then (spec_LoopClues.l1 kj4 x3_1 x4_1 (([rdOf false (rd_L1 l0_2 (ji15)) (ji18), rdOf false (rd_L1 l0_2 (ji21)) (ji18), rdOf false (rd_L1 l0_3 (ji18)) (ji15), rdOf false (rd_L1 l0_3 (wrap64 ((ji18) + 1))) (ji15)] : List Bool)) 0 0 a0_0 a0_1 l0_2 l0_3) else (none)) else (none)) else (none)) else (none)) else (none)) else (none)) else (none)) else (none)) = some r := by first | (rw [hji21] at H; exact H) | (simp only [hji21] at H ⊢; exact H)
                      have hji21w : (IntKind.i64.wrap ((ji15) + 1)) = ji21 := (i64_w _).trans hji21
                      by_cases c22 : 0 ≤ (ji21)
                      · rw [if_pos c22] at H
                        have c22b0 : decide (0 ≤ (ji21)) = true := decide_eq_true c22
                        clear c22
                        by_cases c23 : (ji21) < (l0_2.length : Int)
                        · rw [if_pos c23] at H
                          have c23b0 : decide ((ji21) < (l0_2.length : Int)) = true := decide_eq_true c23
                          clear c23
                          by_cases c24 : (ji18) < ((rd_L1 l0_2 (ji21)).length : Int)
                          · rw [if_pos c24] at H
                            have c24b0 : decide ((ji18) < ((rd_L1 l0_2 (ji21)).length : Int)) = true := decide_eq_true c24
                            clear c24
                            by_cases c25 : (ji18) < (l0_3.length : Int)
                            · rw [if_pos c25] at H
                              have c25b0 : decide ((ji18) < (l0_3.length : Int)) = true := decide_eq_true c25
                              clear c25
                              by_cases c26 : (ji15) < ((rd_L1 l0_3 (ji18)).length : Int)
                              · rw [if_pos c26] at H
                                have c26b0 : decide ((ji15) < ((rd_L1 l0_3 (ji18)).length : Int)) = true := decide_eq_true c26
                                clear c26
                                obtain ⟨ji27, hji27⟩ : ∃ j_ : Int, (wrap64 ((ji18) + 1)) = j_ := ⟨_, rfl⟩
                                replace H : (if 0 ≤ (ji27) then (if (ji27) < (l0_3.length : Int) then (if (ji15) < ((rd_L1 l0_3 (ji27)).length : Int) then (spec_LoopClues.l1 kj4 x3_1 x4_1 (([rdOf false (rd_L1 l0_2 (ji15)) (ji18), rdOf false (rd_L1 l0_2 (ji21)) (ji18), rdOf false (rd_L1 l0_3 (ji18)) (ji15), rdOf false (rd_L1 l0_3 (ji27)) (ji15)] : List Bool)) 0 0 a0_0 a0_1 l0_2 l0_3) else (none)) else (none)) else (none)) = some r := by first | (rw [hji27] at H; exact H) | (simp only [hji27] at H ⊢; exact H)
                                have hji27w : (IntKind.i64.wrap ((ji18) + 1)) = ji27 := (i64_w _).trans hji27
                                by_cases c28 : 0 ≤ (ji27)
                                · rw [if_pos c28] at H
                                  have c28b0 : decide (0 ≤ (ji27)) = true := decide_eq_true c28
                                  clear c28
                                  by_cases c29 : (ji27) < (l0_3.length : Int)
                                  · rw [if_pos c29] at H
                                    have c29b0 : decide ((ji27) < (l0_3.length : Int)) = true := decide_eq_true c29
                                    clear c29
                                    by_cases c30 : (ji15) < ((rd_L1 l0_3 (ji27)).length : Int)
                                    · rw [if_pos c30] at H
                                      have c30b0 : decide ((ji15) < ((rd_L1 l0_3 (ji27)).length : Int)) = true := decide_eq_true c30
                                      clear c30
                                      obtain ⟨y134, hy134⟩ : ∃ y_ : List Bool, y_ = (([rdOf false (rd_L1 l0_2 (ji15)) (ji18), rdOf false (rd_L1 l0_2 (ji21)) (ji18), rdOf false (rd_L1 l0_3 (ji18)) (ji15), rdOf false (rd_L1 l0_3 (ji27)) (ji15)] : List Bool)) := ⟨_, rfl⟩
                                      replace H : (spec_LoopClues.l1 kj4 x3_1 x4_1 y134 0 0 a0_0 a0_1 l0_2 l0_3) = some r := by first | (rw [hy134]; with_reducible exact H) | (have H2_ := (Option.bind_some _ _).symm.trans H; rw [hy134]; with_reducible exact H2_) | (have H2_ := (Option.bind_some _ _).symm.trans H; with_reducible exact H2_) | with_reducible exact H | (rw [hy134]; exact H) | exact H
                                      have Ny134 := Aside0.mk hy134
                                      clear hy134
                                      have H' := Aside0.mk H
                                      clear H
                                      have hcz31_0 : wc.cell? ⟨gb121, 0, none⟩ = some (.int .i64 a0_0) := (blk_cell BK121.out 0).trans rfl
                                      have hcz31_1 : wc.cell? ⟨gb121, 1, none⟩ = some (.int .i64 a0_1) := (blk_cell BK121.out 1).trans rfl
                                      have hcz31_2 : wc.cell? ⟨gb121, 2, none⟩ = some (.slice A0_2 l0_2.length c0_2) := (blk_cell BK121.out 2).trans rfl
                                      have hcz31_3 : wc.cell? ⟨gb121, 3, none⟩ = some (.slice A0_3 l0_3.length c0_3) := (blk_cell BK121.out 3).trans rfl
                                      have hfz31_0 := blk_frozen BK121.out 0
                                      have hfz31_1 := blk_frozen BK121.out 1
                                      have hfz31_2 := blk_frozen BK121.out 2
                                      have hfz31_3 := blk_frozen BK121.out 3
                                      try go_wp2
                                      have n0_ := Aside0.mk (Kd.R_drew HO_3.out)
                                      have n1_ := Aside0.mk (blk_drew BK121.out)
                                      have n2_ := Aside0.mk (below_drew1 HB.out)
                                      clear HO_3
                                      clear BK121
                                      clear HB
                                      have HO_3 := n0_
                                      have BK121 := n1_
                                      have HB := n2_
                                      clear n0_ n1_ n2_
                                      have p126 : 0 ≤ ((ji15) : Int) := of_decide_eq_true (by first | (with_reducible assumption) | assumption)
                                      have q126 : (ji15) < (l0_2.length : Int) := of_decide_eq_true (by first | (with_reducible assumption) | assumption)
                                      obtain ⟨ad126, A126_0, c126_0, e126, hx126_0, hl126_0, hi126_0⟩ := at_L1 HR0_2.out (ji15) p126 q126
                                      have hw126_0 := hx126_0
                                      cases e126
                                      replace hx126_0 := (HB.out.cell (World.block_lt_of_cell? w _ hx126_0)).trans hx126_0
                                      have HR126_0 := Aside0.mk hi126_0
                                      have HC126_0 := Aside0.mk hl126_0
                                      clear hi126_0 hl126_0
                                      replace p126 := eq_true p126
                                      replace q126 := eq_true q126
                                      have p127 : 0 ≤ ((ji18) : Int) := of_decide_eq_true (by first | (with_reducible assumption) | assumption)
                                      have q127 : (ji18) < ((rd_L1 l0_2 (ji15)).length : Int) := of_decide_eq_true (by first | (with_reducible assumption) | assumption)
                                      obtain ⟨ad127, e127, hx127_0⟩ := Kd.at_bool HR126_0.out (ji18) p127 q127
                                      have hw127_0 := hx127_0
                                      cases e127
                                      replace hx127_0 := (HB.out.cell (World.block_lt_of_cell? w _ hx127_0)).trans hx127_0
                                      replace p127 := eq_true p127
                                      replace q127 := eq_true q127
                                      have p128 : 0 ≤ ((ji21) : Int) := of_decide_eq_true (by first | (with_reducible assumption) | assumption)
                                      have q128 : (ji21) < (l0_2.length : Int) := of_decide_eq_true (by first | (with_reducible assumption) | assumption)
                                      obtain ⟨ad128, A128_0, c128_0, e128, hx128_0, hl128_0, hi128_0⟩ := at_L1 HR0_2.out (ji21) p128 q128
                                      have hw128_0 := hx128_0
                                      obtain rfl : ad126 = ad128 := (by injection e128)
                                      replace hx128_0 := (HB.out.cell (World.block_lt_of_cell? w _ hx128_0)).trans hx128_0
                                      have HR128_0 := Aside0.mk hi128_0
                                      have HC128_0 := Aside0.mk hl128_0
                                      clear hi128_0 hl128_0
                                      replace p128 := eq_true p128
                                      replace q128 := eq_true q128
                                      have p129 : 0 ≤ ((ji18) : Int) := of_decide_eq_true (by first | (with_reducible assumption) | assumption)
                                      have q129 : (ji18) < ((rd_L1 l0_2 (ji21)).length : Int) := of_decide_eq_true (by first | (with_reducible assumption) | assumption)
                                      obtain ⟨ad129, e129, hx129_0⟩ := Kd.at_bool HR128_0.out (ji18) p129 q129
                                      have hw129_0 := hx129_0
                                      cases e129
                                      replace hx129_0 := (HB.out.cell (World.block_lt_of_cell? w _ hx129_0)).trans hx129_0
                                      replace p129 := eq_true p129
                                      replace q129 := eq_true q129
                                      have p130 : 0 ≤ ((ji18) : Int) := of_decide_eq_true (by first | (with_reducible assumption) | assumption)
                                      have q130 : (ji18) < (l0_3.length : Int) := of_decide_eq_true (by first | (with_reducible assumption) | assumption)
                                      obtain ⟨ad130, A130_0, c130_0, e130, hx130_0, hl130_0, hi130_0⟩ := at_L1 HR0_3.out (ji18) p130 q130
                                      have hw130_0 := hx130_0
                                      cases e130
                                      replace hx130_0 := (HB.out.cell (World.block_lt_of_cell? w _ hx130_0)).trans hx130_0
                                      have HR130_0 := Aside0.mk hi130_0
                                      have HC130_0 := Aside0.mk hl130_0
                                      clear hi130_0 hl130_0
                                      replace p130 := eq_true p130
                                      replace q130 := eq_true q130
                                      have p131 : 0 ≤ ((ji15) : Int) := of_decide_eq_true (by first | (with_reducible assumption) | assumption)
                                      have q131 : (ji15) < ((rd_L1 l0_3 (ji18)).length : Int) := of_decide_eq_true (by first | (with_reducible assumption) | assumption)
                                      obtain ⟨ad131, e131, hx131_0⟩ := Kd.at_bool HR130_0.out (ji15) p131 q131
                                      have hw131_0 := hx131_0
                                      cases e131
                                      replace hx131_0 := (HB.out.cell (World.block_lt_of_cell? w _ hx131_0)).trans hx131_0
                                      replace p131 := eq_true p131
                                      replace q131 := eq_true q131
                                      have p132 : 0 ≤ ((ji27) : Int) := of_decide_eq_true (by first | (with_reducible assumption) | assumption)
                                      have q132 : (ji27) < (l0_3.length : Int) := of_decide_eq_true (by first | (with_reducible assumption) | assumption)
                                      obtain ⟨ad132, A132_0, c132_0, e132, hx132_0, hl132_0, hi132_0⟩ := at_L1 HR0_3.out (ji27) p132 q132
                                      have hw132_0 := hx132_0
                                      obtain rfl : ad130 = ad132 := (by injection e132)
                                      replace hx132_0 := (HB.out.cell (World.block_lt_of_cell? w _ hx132_0)).trans hx132_0
                                      have HR132_0 := Aside0.mk hi132_0
                                      have HC132_0 := Aside0.mk hl132_0
                                      clear hi132_0 hl132_0
                                      replace p132 := eq_true p132
                                      replace q132 := eq_true q132
                                      have p133 : 0 ≤ ((ji15) : Int) := of_decide_eq_true (by first | (with_reducible assumption) | assumption)
                                      have q133 : (ji15) < ((rd_L1 l0_3 (ji27)).length : Int) := of_decide_eq_true (by first | (with_reducible assumption) | assumption)
                                      obtain ⟨ad133, e133, hx133_0⟩ := Kd.at_bool HR132_0.out (ji15) p133 q133
                                      have hw133_0 := hx133_0
                                      cases e133
                                      replace hx133_0 := (HB.out.cell (World.block_lt_of_cell? w _ hx133_0)).trans hx133_0
                                      replace p133 := eq_true p133
                                      replace q133 := eq_true q133
                                      refine start_ (n := 36) (S := fun w' => w'.cell? ⟨gb121, 0, none⟩ = some (.int .i64 a0_0) ∧ w'.cell? ⟨gb121, 1, none⟩ = some (.int .i64 a0_1) ∧ w'.cell? ⟨gb121, 2, none⟩ = some (.slice (some ad126) l0_2.length c0_2) ∧ w'.cell? ⟨gb121, 3, none⟩ = some (.slice (some ad130) l0_3.length c0_3) ∧ w'.cell? (ad126.add ((ji15)).toNat) = some (.slice (some ad127) (rd_L1 l0_2 (ji15)).length c126_0) ∧ w'.cell? (ad127.add ((ji18)).toNat) = some (.bool (rdOf false (rd_L1 l0_2 (ji15)) (ji18))) ∧ w'.cell? (ad126.add ((ji21)).toNat) = some (.slice (some ad129) (rd_L1 l0_2 (ji21)).length c128_0) ∧ w'.cell? (ad129.add ((ji18)).toNat) = some (.bool (rdOf false (rd_L1 l0_2 (ji21)) (ji18))) ∧ w'.cell? (ad130.add ((ji18)).toNat) = some (.slice (some ad131) (rd_L1 l0_3 (ji18)).length c130_0) ∧ w'.cell? (ad131.add ((ji15)).toNat) = some (.bool (rdOf false (rd_L1 l0_3 (ji18)) (ji15))) ∧ w'.cell? (ad130.add ((ji27)).toNat) = some (.slice (some ad133) (rd_L1 l0_3 (ji27)).length c132_0) ∧ w'.cell? (ad133.add ((ji15)).toNat) = some (.bool (rdOf false (rd_L1 l0_3 (ji27)) (ji15)))) (ds := []) #[false, false, false, false, false, false, false, false, false, false, false, false, false, false, false, false, false, false, false, false, false, false, false, false, false, false, false, false, false, false, false, false, false, false, false, false] (by kernel_rfl) rfl rfl ⟨(blk_cell BK121.out 0).trans rfl, (blk_cell BK121.out 1).trans rfl, (blk_cell BK121.out 2).trans rfl, (blk_cell BK121.out 3).trans rfl, ((HB.out.cell (World.block_lt_of_cell? w _ hw126_0)).trans hw126_0), ((HB.out.cell (World.block_lt_of_cell? w _ hw127_0)).trans hw127_0), ((HB.out.cell (World.block_lt_of_cell? w _ hw128_0)).trans hw128_0), ((HB.out.cell (World.block_lt_of_cell? w _ hw129_0)).trans hw129_0), ((HB.out.cell (World.block_lt_of_cell? w _ hw130_0)).trans hw130_0), ((HB.out.cell (World.block_lt_of_cell? w _ hw131_0)).trans hw131_0), ((HB.out.cell (World.block_lt_of_cell? w _ hw132_0)).trans hw132_0), ((HB.out.cell (World.block_lt_of_cell? w _ hw133_0)).trans hw133_0)⟩ (fun hHeld => ?_); refine with_tabW spec_LoopClues.tab7 spec_LoopClues.bits7 (fun HT_ HW_ => ?_)
                                      generalize wc.drew = w32 at HO_3 BK121 HB HR126_0 HR128_0 HR130_0 HR132_0 hx126_0 hx127_0 hx128_0 hx129_0 hx130_0 hx131_0 hx132_0 hx133_0 hHeld ⊢
                                      refine pure_ (i := 0) (N := some 32) (v := ?_) (a' := ?_) #[true, false, false, false, false, false, false, false, false, false, false, false, false, false, false, false, false, false, false, false, false, false, false, false, false, false, false, false, false, false, false, false, false, false, false, false] rfl rfl (any_of HT_.out (by kernel_rfl)) (fun _ _ _ h => h) (Or.inl ⟨by rfl, ?_⟩) ?_ ?_
                                      rotate_left
                                      · intro w'
                                        go_simp
                                        with_reducible rfl
                                      rotate_left
                                      · simp only [Act.put, List.setIfInBounds_toArray, List.set_cons_zero, List.set_cons_succ, i64_w, i32_w]
                                        rfl
                                      refine pure_ (i := 2) (N := some 34) (v := ?_) (a' := ?_) #[true, false, true, false, false, false, false, false, false, false, false, false, false, false, false, false, false, false, false, false, false, false, false, false, false, false, false, false, false, false, false, false, false, false, false, false] rfl rfl (any_of HT_.out (by kernel_rfl)) (fun _ _ _ h => h) (Or.inl ⟨by rfl, ?_⟩) ?_ ?_
                                      rotate_left
                                      · intro w'
                                        go_simp
                                        with_reducible rfl
                                      rotate_left
                                      · simp only [Act.put, List.setIfInBounds_toArray, List.set_cons_zero, List.set_cons_succ, i64_w, i32_w]
                                        rfl
                                      refine pure_ (i := 5) (N := some 37) (v := ?_) (a' := ?_) #[true, false, true, false, false, true, false, false, false, false, false, false, false, false, false, false, false, false, false, false, false, false, false, false, false, false, false, false, false, false, false, false, false, false, false, false] rfl rfl (any_of HT_.out (by kernel_rfl)) (fun _ _ _ h => h) (Or.inl ⟨by rfl, ?_⟩) ?_ ?_
                                      rotate_left
                                      · intro w'
                                        go_simp
                                        with_reducible rfl
                                      rotate_left
                                      · simp only [Act.put, List.setIfInBounds_toArray, List.set_cons_zero, List.set_cons_succ, i64_w, i32_w]
                                        rfl
                                      refine pure_ (i := 8) (N := some 40) (v := ?_) (a' := ?_) #[true, false, true, false, false, true, false, false, true, false, false, false, false, false, false, false, false, false, false, false, false, false, false, false, false, false, false, false, false, false, false, false, false, false, false, false] rfl rfl (any_of HT_.out (by kernel_rfl)) (fun _ _ _ h => h) (Or.inl ⟨by rfl, ?_⟩) ?_ ?_
                                      rotate_left
                                      · intro w'
                                        go_simp
                                        with_reducible rfl
                                      rotate_left
                                      · simp only [Act.put, List.setIfInBounds_toArray, List.set_cons_zero, List.set_cons_succ, i64_w, i32_w]
                                        rfl
                                      refine pure_ (i := 10) (N := some 42) (v := ?_) (a' := ?_) #[true, false, true, false, false, true, false, false, true, false, true, false, false, false, false, false, false, false, false, false, false, false, false, false, false, false, false, false, false, false, false, false, false, false, false, false] rfl rfl (any_of HT_.out (by kernel_rfl)) (fun _ _ _ h => h) (Or.inl ⟨by rfl, ?_⟩) ?_ ?_
                                      rotate_left
                                      · intro w'
                                        go_simp
                                        with_reducible rfl
                                      rotate_left
                                      · simp only [Act.put, List.setIfInBounds_toArray, List.set_cons_zero, List.set_cons_succ, i64_w, i32_w]
                                        rfl
                                      refine pure_ (i := 11) (N := some 43) (v := ?_) (a' := ?_) #[true, false, true, false, false, true, false, false, true, false, true, true, false, false, false, false, false, false, false, false, false, false, false, false, false, false, false, false, false, false, false, false, false, false, false, false] rfl rfl (any_of HT_.out (by kernel_rfl)) (fun _ _ _ h => h) (Or.inl ⟨by rfl, ?_⟩) ?_ ?_
                                      rotate_left
                                      · intro w'
                                        go_simp
                                        with_reducible rfl
                                      rotate_left
                                      · simp only [Act.put, List.setIfInBounds_toArray, List.set_cons_zero, List.set_cons_succ, i64_w, i32_w]
                                        rfl
                                      refine pure_ (i := 14) (N := some 46) (v := ?_) (a' := ?_) #[true, false, true, false, false, true, false, false, true, false, true, true, false, false, true, false, false, false, false, false, false, false, false, false, false, false, false, false, false, false, false, false, false, false, false, false] rfl rfl (any_of HT_.out (by kernel_rfl)) (fun _ _ _ h => h) (Or.inl ⟨by rfl, ?_⟩) ?_ ?_
                                      rotate_left
                                      · intro w'
                                        go_simp
                                        with_reducible rfl
                                      rotate_left
                                      · simp only [Act.put, List.setIfInBounds_toArray, List.set_cons_zero, List.set_cons_succ, i64_w, i32_w]
                                        rfl
                                      refine pure_ (i := 17) (N := some 49) (v := ?_) (a' := ?_) #[true, false, true, false, false, true, false, false, true, false, true, true, false, false, true, false, false, true, false, false, false, false, false, false, false, false, false, false, false, false, false, false, false, false, false, false] rfl rfl (any_of HT_.out (by kernel_rfl)) (fun _ _ _ h => h) (Or.inl ⟨by rfl, ?_⟩) ?_ ?_
                                      rotate_left
                                      · intro w'
                                        go_simp
                                        with_reducible rfl
                                      rotate_left
                                      · simp only [Act.put, List.setIfInBounds_toArray, List.set_cons_zero, List.set_cons_succ, i64_w, i32_w]
                                        rfl
                                      refine pure_ (i := 19) (N := some 51) (v := ?_) (a' := ?_) #[true, false, true, false, false, true, false, false, true, false, true, true, false, false, true, false, false, true, false, true, false, false, false, false, false, false, false, false, false, false, false, false, false, false, false, false] rfl rfl (any_of HT_.out (by kernel_rfl)) (fun _ _ _ h => h) (Or.inl ⟨by rfl, ?_⟩) ?_ ?_
                                      rotate_left
                                      · intro w'
                                        go_simp
                                        with_reducible rfl
                                      rotate_left
                                      · simp only [Act.put, List.setIfInBounds_toArray, List.set_cons_zero, List.set_cons_succ, i64_w, i32_w]
                                        rfl
                                      refine pure_ (i := 22) (N := some 54) (v := ?_) (a' := ?_) #[true, false, true, false, false, true, false, false, true, false, true, true, false, false, true, false, false, true, false, true, false, false, true, false, false, false, false, false, false, false, false, false, false, false, false, false] rfl rfl (any_of HT_.out (by kernel_rfl)) (fun _ _ _ h => h) (Or.inl ⟨by rfl, ?_⟩) ?_ ?_
                                      rotate_left
                                      · intro w'
                                        go_simp
                                        with_reducible rfl
                                      rotate_left
                                      · simp only [Act.put, List.setIfInBounds_toArray, List.set_cons_zero, List.set_cons_succ, i64_w, i32_w]
                                        rfl
                                      refine pure_ (i := 25) (N := some 57) (v := ?_) (a' := ?_) #[true, false, true, false, false, true, false, false, true, false, true, true, false, false, true, false, false, true, false, true, false, false, true, false, false, true, false, false, false, false, false, false, false, false, false, false] rfl rfl (any_of HT_.out (by kernel_rfl)) (fun _ _ _ h => h) (Or.inl ⟨by rfl, ?_⟩) ?_ ?_
                                      rotate_left
                                      · intro w'
                                        go_simp
                                        with_reducible rfl
                                      rotate_left
                                      · simp only [Act.put, List.setIfInBounds_toArray, List.set_cons_zero, List.set_cons_succ, i64_w, i32_w]
                                        rfl
                                      refine pure_ (i := 27) (N := some 59) (v := ?_) (a' := ?_) #[true, false, true, false, false, true, false, false, true, false, true, true, false, false, true, false, false, true, false, true, false, false, true, false, false, true, false, true, false, false, false, false, false, false, false, false] rfl rfl (any_of HT_.out (by kernel_rfl)) (fun _ _ _ h => h) (Or.inl ⟨by rfl, ?_⟩) ?_ ?_
                                      rotate_left
                                      · intro w'
                                        go_simp
                                        with_reducible rfl
                                      rotate_left
                                      · simp only [Act.put, List.setIfInBounds_toArray, List.set_cons_zero, List.set_cons_succ, i64_w, i32_w]
                                        rfl
                                      refine pure_ (i := 28) (N := some 60) (v := ?_) (a' := ?_) #[true, false, true, false, false, true, false, false, true, false, true, true, false, false, true, false, false, true, false, true, false, false, true, false, false, true, false, true, true, false, false, false, false, false, false, false] rfl rfl (any_of HT_.out (by kernel_rfl)) (fun _ _ _ h => h) (Or.inl ⟨by rfl, ?_⟩) ?_ ?_
                                      rotate_left
                                      · intro w'
                                        go_simp
                                        with_reducible rfl
                                      rotate_left
                                      · simp only [Act.put, List.setIfInBounds_toArray, List.set_cons_zero, List.set_cons_succ, i64_w, i32_w]
                                        rfl
                                      refine pure_ (i := 31) (N := some 63) (v := ?_) (a' := ?_) #[true, false, true, false, false, true, false, false, true, false, true, true, false, false, true, false, false, true, false, true, false, false, true, false, false, true, false, true, true, false, false, true, false, false, false, false] rfl rfl (any_of HT_.out (by kernel_rfl)) (fun _ _ _ h => h) (Or.inl ⟨by rfl, ?_⟩) ?_ ?_
                                      rotate_left
                                      · intro w'
                                        go_simp
                                        with_reducible rfl
                                      rotate_left
                                      · simp only [Act.put, List.setIfInBounds_toArray, List.set_cons_zero, List.set_cons_succ, i64_w, i32_w]
                                        rfl
                                      refine take_ (i := 1) (N := some 33) (v := ?_) (a' := ?_) #[true, true, true, false, false, true, false, false, true, false, true, true, false, false, true, false, false, true, false, true, false, false, true, false, false, true, false, true, true, false, false, true, false, false, false, false] rfl rfl (take_ofW HT_.out HW_.out (by kernel_rfl)) (fun _ _ _ h => h) (Or.inl ⟨by rfl, ?_⟩) hHeld ?_ ?_
                                      rotate_left
                                      · rintro w' ⟨s0, s1, s2, s3, s4, s5, s6, s7, s8, s9, s10, s11⟩
                                        go_simp
                                        with_reducible rfl
                                      rotate_left
                                      · simp only [Act.put, List.setIfInBounds_toArray, List.set_cons_zero, List.set_cons_succ, i64_w, i32_w]
                                        rfl
                                      refine pure_ (i := 3) (N := some 35) (v := ?_) (a' := ?_) #[true, true, true, true, false, true, false, false, true, false, true, true, false, false, true, false, false, true, false, true, false, false, true, false, false, true, false, true, true, false, false, true, false, false, false, false] rfl rfl (any_of HT_.out (by kernel_rfl)) (fun _ _ _ h => h) (Or.inl ⟨by rfl, ?_⟩) ?_ ?_
                                      rotate_left
                                      · intro w'
                                        go_simp
                                        with_reducible rfl
                                      rotate_left
                                      · simp only [Act.put, List.setIfInBounds_toArray, List.set_cons_zero, List.set_cons_succ, i64_w, i32_w]
                                        rfl
                                      refine take_ (i := 4) (N := some 36) (v := ?_) (a' := ?_) #[true, true, true, true, true, true, false, false, true, false, true, true, false, false, true, false, false, true, false, true, false, false, true, false, false, true, false, true, true, false, false, true, false, false, false, false] rfl rfl (take_ofW HT_.out HW_.out (by kernel_rfl)) (fun _ _ _ h => h) (Or.inl ⟨by rfl, ?_⟩) hHeld ?_ ?_
                                      rotate_left
                                      · rintro w' ⟨s0, s1, s2, s3, s4, s5, s6, s7, s8, s9, s10, s11⟩
                                        go_simp
                                        with_reducible rfl
                                      rotate_left
                                      · simp only [Act.put, List.setIfInBounds_toArray, List.set_cons_zero, List.set_cons_succ, i64_w, i32_w]
                                        rfl
                                      refine pure_ (i := 6) (N := some 38) (v := ?_) (a' := ?_) #[true, true, true, true, true, true, true, false, true, false, true, true, false, false, true, false, false, true, false, true, false, false, true, false, false, true, false, true, true, false, false, true, false, false, false, false] rfl rfl (any_of HT_.out (by kernel_rfl)) (fun _ _ _ h => h) (Or.inl ⟨by rfl, ?_⟩) ?_ ?_
                                      rotate_left
                                      · intro w'
                                        go_simp
                                        with_reducible rfl
                                      rotate_left
                                      · simp only [Act.put, List.setIfInBounds_toArray, List.set_cons_zero, List.set_cons_succ, i64_w, i32_w]
                                        rfl
                                      refine take_ (i := 7) (N := some 39) (v := ?_) (a' := ?_) #[true, true, true, true, true, true, true, true, true, false, true, true, false, false, true, false, false, true, false, true, false, false, true, false, false, true, false, true, true, false, false, true, false, false, false, false] rfl rfl (take_ofW HT_.out HW_.out (by kernel_rfl)) (fun _ _ _ h => h) (Or.inl ⟨by rfl, ?_⟩) hHeld ?_ ?_
                                      rotate_left
                                      · rintro w' ⟨s0, s1, s2, s3, s4, s5, s6, s7, s8, s9, s10, s11⟩
                                        go_simp
                                        with_reducible rfl
                                      rotate_left
                                      · simp only [Act.put, List.setIfInBounds_toArray, List.set_cons_zero, List.set_cons_succ, i64_w, i32_w]
                                        rfl
                                      refine take_ (i := 9) (N := some 41) (v := ?_) (a' := ?_) #[true, true, true, true, true, true, true, true, true, true, true, true, false, false, true, false, false, true, false, true, false, false, true, false, false, true, false, true, true, false, false, true, false, false, false, false] rfl rfl (take_ofW HT_.out HW_.out (by kernel_rfl)) (fun _ _ _ h => h) (Or.inl ⟨by rfl, ?_⟩) hHeld ?_ ?_
                                      rotate_left
                                      · rintro w' ⟨s0, s1, s2, s3, s4, s5, s6, s7, s8, s9, s10, s11⟩
                                        go_simp
                                        with_reducible rfl
                                      rotate_left
                                      · simp only [Act.put, List.setIfInBounds_toArray, List.set_cons_zero, List.set_cons_succ, i64_w, i32_w]
                                        rfl
                                      refine pure_ (i := 12) (N := some 44) (v := ?_) (a' := ?_) #[true, true, true, true, true, true, true, true, true, true, true, true, true, false, true, false, false, true, false, true, false, false, true, false, false, true, false, true, true, false, false, true, false, false, false, false] rfl rfl (any_of HT_.out (by kernel_rfl)) (fun _ _ _ h => h) (Or.inl ⟨by rfl, ?_⟩) ?_ ?_
                                      rotate_left
                                      · intro w'
                                        go_simp
                                        with_reducible rfl
                                      rotate_left
                                      · simp only [Act.put, List.setIfInBounds_toArray, List.set_cons_zero, List.set_cons_succ, i64_w, i32_w]
                                        rfl
                                      refine take_ (i := 13) (N := some 45) (v := ?_) (a' := ?_) #[true, true, true, true, true, true, true, true, true, true, true, true, true, true, true, false, false, true, false, true, false, false, true, false, false, true, false, true, true, false, false, true, false, false, false, false] rfl rfl (take_ofW HT_.out HW_.out (by kernel_rfl)) (fun _ _ _ h => h) (Or.inl ⟨by rfl, ?_⟩) hHeld ?_ ?_
                                      rotate_left
                                      · rintro w' ⟨s0, s1, s2, s3, s4, s5, s6, s7, s8, s9, s10, s11⟩
                                        go_simp
                                        with_reducible rfl
                                      rotate_left
                                      · simp only [Act.put, List.setIfInBounds_toArray, List.set_cons_zero, List.set_cons_succ, i64_w, i32_w]
                                        rfl
                                      refine pure_ (i := 15) (N := some 47) (v := ?_) (a' := ?_) #[true, true, true, true, true, true, true, true, true, true, true, true, true, true, true, true, false, true, false, true, false, false, true, false, false, true, false, true, true, false, false, true, false, false, false, false] rfl rfl (any_of HT_.out (by kernel_rfl)) (fun _ _ _ h => h) (Or.inl ⟨by rfl, ?_⟩) ?_ ?_
                                      rotate_left
                                      · intro w'
                                        go_simp
                                        with_reducible rfl
                                      rotate_left
                                      · simp only [Act.put, List.setIfInBounds_toArray, List.set_cons_zero, List.set_cons_succ, i64_w, i32_w]
                                        rfl
                                      refine take_ (i := 16) (N := some 48) (v := ?_) (a' := ?_) #[true, true, true, true, true, true, true, true, true, true, true, true, true, true, true, true, true, true, false, true, false, false, true, false, false, true, false, true, true, false, false, true, false, false, false, false] rfl rfl (take_ofW HT_.out HW_.out (by kernel_rfl)) (fun _ _ _ h => h) (Or.inl ⟨by rfl, ?_⟩) hHeld ?_ ?_
                                      rotate_left
                                      · rintro w' ⟨s0, s1, s2, s3, s4, s5, s6, s7, s8, s9, s10, s11⟩
                                        go_simp
                                        with_reducible rfl
                                      rotate_left
                                      · simp only [Act.put, List.setIfInBounds_toArray, List.set_cons_zero, List.set_cons_succ, i64_w, i32_w]
                                        rfl
                                      refine take_ (i := 18) (N := some 50) (v := ?_) (a' := ?_) #[true, true, true, true, true, true, true, true, true, true, true, true, true, true, true, true, true, true, true, true, false, false, true, false, false, true, false, true, true, false, false, true, false, false, false, false] rfl rfl (take_ofW HT_.out HW_.out (by kernel_rfl)) (fun _ _ _ h => h) (Or.inl ⟨by rfl, ?_⟩) hHeld ?_ ?_
                                      rotate_left
                                      · rintro w' ⟨s0, s1, s2, s3, s4, s5, s6, s7, s8, s9, s10, s11⟩
                                        go_simp
                                        with_reducible rfl
                                      rotate_left
                                      · simp only [Act.put, List.setIfInBounds_toArray, List.set_cons_zero, List.set_cons_succ, i64_w, i32_w]
                                        rfl
                                      refine pure_ (i := 20) (N := some 52) (v := ?_) (a' := ?_) #[true, true, true, true, true, true, true, true, true, true, true, true, true, true, true, true, true, true, true, true, true, false, true, false, false, true, false, true, true, false, false, true, false, false, false, false] rfl rfl (any_of HT_.out (by kernel_rfl)) (fun _ _ _ h => h) (Or.inl ⟨by rfl, ?_⟩) ?_ ?_
                                      rotate_left
                                      · intro w'
                                        go_simp
                                        with_reducible rfl
                                      rotate_left
                                      · simp only [Act.put, List.setIfInBounds_toArray, List.set_cons_zero, List.set_cons_succ, i64_w, i32_w]
                                        rfl
                                      refine take_ (i := 21) (N := some 53) (v := ?_) (a' := ?_) #[true, true, true, true, true, true, true, true, true, true, true, true, true, true, true, true, true, true, true, true, true, true, true, false, false, true, false, true, true, false, false, true, false, false, false, false] rfl rfl (take_ofW HT_.out HW_.out (by kernel_rfl)) (fun _ _ _ h => h) (Or.inl ⟨by rfl, ?_⟩) hHeld ?_ ?_
                                      rotate_left
                                      · rintro w' ⟨s0, s1, s2, s3, s4, s5, s6, s7, s8, s9, s10, s11⟩
                                        go_simp
                                        with_reducible rfl
                                      rotate_left
                                      · simp only [Act.put, List.setIfInBounds_toArray, List.set_cons_zero, List.set_cons_succ, i64_w, i32_w]
                                        rfl
                                      refine pure_ (i := 23) (N := some 55) (v := ?_) (a' := ?_) #[true, true, true, true, true, true, true, true, true, true, true, true, true, true, true, true, true, true, true, true, true, true, true, true, false, true, false, true, true, false, false, true, false, false, false, false] rfl rfl (any_of HT_.out (by kernel_rfl)) (fun _ _ _ h => h) (Or.inl ⟨by rfl, ?_⟩) ?_ ?_
                                      rotate_left
                                      · intro w'
                                        go_simp
                                        with_reducible rfl
                                      rotate_left
                                      · simp only [Act.put, List.setIfInBounds_toArray, List.set_cons_zero, List.set_cons_succ, i64_w, i32_w]
                                        rfl
                                      refine take_ (i := 24) (N := some 56) (v := ?_) (a' := ?_) #[true, true, true, true, true, true, true, true, true, true, true, true, true, true, true, true, true, true, true, true, true, true, true, true, true, true, false, true, true, false, false, true, false, false, false, false] rfl rfl (take_ofW HT_.out HW_.out (by kernel_rfl)) (fun _ _ _ h => h) (Or.inl ⟨by rfl, ?_⟩) hHeld ?_ ?_
                                      rotate_left
                                      · rintro w' ⟨s0, s1, s2, s3, s4, s5, s6, s7, s8, s9, s10, s11⟩
                                        go_simp
                                        with_reducible rfl
                                      rotate_left
                                      · simp only [Act.put, List.setIfInBounds_toArray, List.set_cons_zero, List.set_cons_succ, i64_w, i32_w]
                                        rfl
                                      refine take_ (i := 26) (N := some 58) (v := ?_) (a' := ?_) #[true, true, true, true, true, true, true, true, true, true, true, true, true, true, true, true, true, true, true, true, true, true, true, true, true, true, true, true, true, false, false, true, false, false, false, false] rfl rfl (take_ofW HT_.out HW_.out (by kernel_rfl)) (fun _ _ _ h => h) (Or.inl ⟨by rfl, ?_⟩) hHeld ?_ ?_
                                      rotate_left
                                      · rintro w' ⟨s0, s1, s2, s3, s4, s5, s6, s7, s8, s9, s10, s11⟩
                                        go_simp
                                        with_reducible rfl
                                      rotate_left
                                      · simp only [Act.put, List.setIfInBounds_toArray, List.set_cons_zero, List.set_cons_succ, i64_w, i32_w]
                                        rfl
                                      refine pure_ (i := 29) (N := some 61) (v := ?_) (a' := ?_) #[true, true, true, true, true, true, true, true, true, true, true, true, true, true, true, true, true, true, true, true, true, true, true, true, true, true, true, true, true, true, false, true, false, false, false, false] rfl rfl (any_of HT_.out (by kernel_rfl)) (fun _ _ _ h => h) (Or.inl ⟨by rfl, ?_⟩) ?_ ?_
                                      rotate_left
                                      · intro w'
                                        go_simp
                                        with_reducible rfl
                                      rotate_left
                                      · simp only [Act.put, List.setIfInBounds_toArray, List.set_cons_zero, List.set_cons_succ, i64_w, i32_w]
                                        rfl
                                      refine take_ (i := 30) (N := some 62) (v := ?_) (a' := ?_) #[true, true, true, true, true, true, true, true, true, true, true, true, true, true, true, true, true, true, true, true, true, true, true, true, true, true, true, true, true, true, true, true, false, false, false, false] rfl rfl (take_ofW HT_.out HW_.out (by kernel_rfl)) (fun _ _ _ h => h) (Or.inl ⟨by rfl, ?_⟩) hHeld ?_ ?_
                                      rotate_left
                                      · rintro w' ⟨s0, s1, s2, s3, s4, s5, s6, s7, s8, s9, s10, s11⟩
                                        go_simp
                                        with_reducible rfl
                                      rotate_left
                                      · simp only [Act.put, List.setIfInBounds_toArray, List.set_cons_zero, List.set_cons_succ, i64_w, i32_w]
                                        rfl
                                      refine pure_ (i := 32) (N := some 64) (v := ?_) (a' := ?_) #[true, true, true, true, true, true, true, true, true, true, true, true, true, true, true, true, true, true, true, true, true, true, true, true, true, true, true, true, true, true, true, true, true, false, false, false] rfl rfl (any_of HT_.out (by kernel_rfl)) (fun _ _ _ h => h) (Or.inl ⟨by rfl, ?_⟩) ?_ ?_
                                      rotate_left
                                      · intro w'
                                        go_simp
                                        with_reducible rfl
                                      rotate_left
                                      · simp only [Act.put, List.setIfInBounds_toArray, List.set_cons_zero, List.set_cons_succ, i64_w, i32_w]
                                        rfl
                                      refine take_ (i := 33) (N := some 65) (v := ?_) (a' := ?_) #[true, true, true, true, true, true, true, true, true, true, true, true, true, true, true, true, true, true, true, true, true, true, true, true, true, true, true, true, true, true, true, true, true, true, false, false] rfl rfl (take_ofW HT_.out HW_.out (by kernel_rfl)) (fun _ _ _ h => h) (Or.inl ⟨by rfl, ?_⟩) hHeld ?_ ?_
                                      rotate_left
                                      · rintro w' ⟨s0, s1, s2, s3, s4, s5, s6, s7, s8, s9, s10, s11⟩
                                        go_simp
                                        with_reducible rfl
                                      rotate_left
                                      · simp only [Act.put, List.setIfInBounds_toArray, List.set_cons_zero, List.set_cons_succ, i64_w, i32_w]
                                        rfl
                                      refine one_ (i := 34) (N := some 66) #[true, true, true, true, true, true, true, true, true, true, true, true, true, true, true, true, true, true, true, true, true, true, true, true, true, true, true, true, true, true, true, true, true, true, true, false] rfl rfl (one_of HT_.out (by kernel_rfl)) (by decide) (fun K hK => ?_)
                                      refine Kd.R_lit_step Kd.bool _ 4 ?hg (N := 66) ?hd (xs := ([rdOf false (rd_L1 l0_2 (ji15)) (ji18), rdOf false (rd_L1 l0_2 (ji21)) (ji18), rdOf false (rd_L1 l0_3 (ji18)) (ji15), rdOf false (rd_L1 l0_3 (ji27)) (ji15)] : List Bool)) (inner := [.bool (rdOf false (rd_L1 l0_2 (ji15)) (ji18)), .bool (rdOf false (rd_L1 l0_2 (ji21)) (ji18)), .bool (rdOf false (rd_L1 l0_3 (ji18)) (ji15)), .bool (rdOf false (rd_L1 l0_3 (ji27)) (ji15))]) (ok := fun _ => True) (okp := fun _ => True) ?hr ?hp (fun _ hk => hk) trivial (Below.refl _ _) (Nat.le_refl _) (by simp) ?_; (case hd => rfl); (case hg => rfl); (case hr => first | (go_simp; done) | (go_simp; rfl)); (case hp => exact (Reps.one (show Kd.M Kd.bool _ _ _ (rdOf false (rd_L1 l0_2 (ji15)) (ji18)) [.bool (rdOf false (rd_L1 l0_2 (ji15)) (ji18))] from rfl) (Reps.one (show Kd.M Kd.bool _ _ _ (rdOf false (rd_L1 l0_2 (ji21)) (ji18)) [.bool (rdOf false (rd_L1 l0_2 (ji21)) (ji18))] from rfl) (Reps.one (show Kd.M Kd.bool _ _ _ (rdOf false (rd_L1 l0_3 (ji18)) (ji15)) [.bool (rdOf false (rd_L1 l0_3 (ji18)) (ji15))] from rfl) (Reps.one (show Kd.M Kd.bool _ _ _ (rdOf false (rd_L1 l0_3 (ji27)) (ji15)) [.bool (rdOf false (rd_L1 l0_3 (ji27)) (ji15))] from rfl) (Reps.none _ _))))))
                                      intro v135 w33 ho34 hb hg_ hnew_
                                      clear hg_ hnew_
                                      (first | rw [← Ny134.out] at ho34 | (simp only [Int.reduceToNat] at ho34; rw [← Ny134.out] at ho34))
                                      have n0_ := Aside0.mk (Kd.R_below (by (with_reducible repeat (first | apply Kd.R_alloc | apply Kd.R_drewN | apply Kd.R_drew)); exact HO_3.out) hb)
                                      have n1_ := Aside0.mk (Kd.R_lower ho34 (below_size (by repeat (first | (with_reducible first | exact HB.out | apply below_alloc | apply pw_below_drewN | apply below_drew1 | refine below_set ?_ GE121.out) | exact HB.out))))
                                      have n2_ := Aside0.mk (blk_below (g := gb121) (o := .cells #[.int .i64 a0_0, .int .i64 a0_1, .slice (some ad126) l0_2.length c0_2, .slice (some ad130) l0_3.length c0_3] 25 (0, 0)) (by (with_reducible repeat (first | refine blk_drewN ?_ _ | refine blk_drew ?_ | refine blk_alloc ?_ _)); exact BK121.out) hb)
                                      have n3_ := Aside0.mk (below_step (by repeat (first | (with_reducible first | exact HB.out | apply below_alloc | apply pw_below_drewN | apply below_drew1 | refine below_set ?_ GE121.out) | exact HB.out)) hb)
                                      clear HO_3
                                      clear BK121
                                      clear HB
                                      have HO_3 := n0_
                                      have HO136 := n1_
                                      have BK121 := n2_
                                      have HB := n3_
                                      clear n0_ n1_ n2_ n3_
                                      clear hb ho34
                                      refine hK.out _ _ ⟨(blk_cell BK121.out 0).trans rfl, (blk_cell BK121.out 1).trans rfl, (blk_cell BK121.out 2).trans rfl, (blk_cell BK121.out 3).trans rfl, ((HB.out.cell (World.block_lt_of_cell? w _ hw126_0)).trans hw126_0), ((HB.out.cell (World.block_lt_of_cell? w _ hw127_0)).trans hw127_0), ((HB.out.cell (World.block_lt_of_cell? w _ hw128_0)).trans hw128_0), ((HB.out.cell (World.block_lt_of_cell? w _ hw129_0)).trans hw129_0), ((HB.out.cell (World.block_lt_of_cell? w _ hw130_0)).trans hw130_0), ((HB.out.cell (World.block_lt_of_cell? w _ hw131_0)).trans hw131_0), ((HB.out.cell (World.block_lt_of_cell? w _ hw132_0)).trans hw132_0), ((HB.out.cell (World.block_lt_of_cell? w _ hw133_0)).trans hw133_0)⟩ (fun hHeld => ?_)
                                      clear hK K
                                      refine norm_ (a' := ?_) ?_ ?_
                                      rotate_left
                                      · show Act.put _ (some 66) _ = _
                                        simp only [Act.put, List.setIfInBounds_toArray, List.set_cons_zero, List.set_cons_succ, i64_w, i32_w]
                                        rfl
                                      refine pure_ (i := 35) (N := some 7) (v := ?_) (a' := ?_) #[true, true, true, true, true, true, true, true, true, true, true, true, true, true, true, true, true, true, true, true, true, true, true, true, true, true, true, true, true, true, true, true, true, true, true, true] rfl rfl (any_of HT_.out (by kernel_rfl)) (fun _ _ _ h => h) (Or.inl ⟨by rfl, ?_⟩) ?_ ?_
                                      rotate_left
                                      · intro w'
                                        go_simp
                                        with_reducible rfl
                                      rotate_left
                                      · simp only [Act.put, List.setIfInBounds_toArray, List.set_cons_zero, List.set_cons_succ, i64_w, i32_w]
                                        rfl
                                      refine done_ (done_of HT_.out (by kernel_rfl)) ?_
                                      try go_wp2
                                      go_loopg [8, 9] kj4 (fun kq v8 v9 w' => ∃ (x8_3 : Int) (x9_3 : Int), v8 = .int .i64 x8_3 ∧ v9 = .int .i64 x9_3 ∧ Aside0 (spec_LoopClues.l1 kq x3_1 x4_1 y134 x8_3 x9_3 a0_0 a0_1 l0_2 l0_3 = some r) ∧ Aside0 (kq ≤ kj4) ∧ Aside0 (Kd.R (Kd.int .i64) 3 w' w.heap.size (fun _ => True) u3 x3_1) ∧ Aside0 (Kd.R Kd.bool 4 w' w.heap.size (fun _ => True) v135 y134) ∧ Aside0 (w'.heap[gb121]? = some (.cells #[.int .i64 a0_0, .int .i64 a0_1, (.slice (some ad126) l0_2.length c0_2), (.slice (some ad130) l0_3.length c0_3)] 25 (0, 0))) ∧ Aside0 (Below w.heap.size w w'))
                                      case atStart => exact ⟨(0), (0), (by first | rfl | (simp; done) | (simp [*]; done)), (by first | rfl | (simp; done) | (simp [*]; done)), H', ⟨Nat.le_refl _⟩, ⟨by (with_reducible repeat (first | apply Kd.R_alloc | apply Kd.R_drewN | apply Kd.R_drew)); exact HO_3.out⟩, ⟨by (with_reducible repeat (first | apply Kd.R_alloc | apply Kd.R_drewN | apply Kd.R_drew)); exact HO136.out⟩, ⟨by (with_reducible repeat (first | refine blk_drewN ?_ _ | refine blk_drew ?_ | refine blk_alloc ?_ _)); exact BK121.out⟩, ⟨by repeat (first | (with_reducible first | exact HB.out | apply below_alloc | apply pw_below_drewN | apply below_drew1 | refine below_set ?_ GE121.out) | exact HB.out)⟩⟩
                                      case round =>
                                        clear H'
                                        try clear c1
                                        try clear p1
                                        try clear q1
                                        try clear hx1
                                        try clear c2
                                        try clear p2
                                        try clear c3
                                        try clear c4
                                        try clear p6
                                        try clear c7
                                        try clear c12
                                        try clear p12
                                        try clear q12
                                        try clear hx12
                                        try clear c13
                                        try clear p13
                                        try clear q13
                                        try clear hx13
                                        try clear c14
                                        try clear c14b0
                                        try clear c14b1
                                        try clear c16
                                        try clear c16b0
                                        try clear c17
                                        try clear c17b0
                                        try clear c19
                                        try clear c19b0
                                        try clear c20
                                        try clear c20b0
                                        try clear c22
                                        try clear c22b0
                                        try clear c23
                                        try clear c23b0
                                        try clear c24
                                        try clear c24b0
                                        try clear c25
                                        try clear c25b0
                                        try clear c26
                                        try clear c26b0
                                        try clear c28
                                        try clear c28b0
                                        try clear c29
                                        try clear c29b0
                                        try clear c30
                                        try clear c30b0
                                        try clear hcz10_0
                                        try clear hcz10_1
                                        try clear hcz10_2
                                        try clear hcz10_3
                                        try clear hcz11_0
                                        try clear hcz11_1
                                        try clear hcz11_2
                                        try clear hcz11_3
                                        try clear hcz31_0
                                        try clear hcz31_1
                                        try clear hcz31_2
                                        try clear hcz31_3
                                        try clear hcz8_0
                                        try clear hcz8_1
                                        try clear hcz8_2
                                        try clear hcz8_3
                                        try clear hfz10_0
                                        try clear hfz10_1
                                        try clear hfz10_2
                                        try clear hfz10_3
                                        try clear hfz11_0
                                        try clear hfz11_1
                                        try clear hfz11_2
                                        try clear hfz11_3
                                        try clear hfz31_0
                                        try clear hfz31_1
                                        try clear hfz31_2
                                        try clear hfz31_3
                                        try clear hfz8_0
                                        try clear hfz8_1
                                        try clear hfz8_2
                                        try clear hfz8_3
                                        try clear hx126_0
                                        try clear hx127_0
                                        try clear hx128_0
                                        try clear hx129_0
                                        try clear hx130_0
                                        try clear hx131_0
                                        try clear hx132_0
                                        try clear hx133_0
                                        try clear p126
                                        try clear p127
                                        try clear p128
                                        try clear p129
                                        try clear p130
                                        try clear p131
                                        try clear p132
                                        try clear p133
                                        try clear p2
                                        try clear p6
                                        try clear q126
                                        try clear q127
                                        try clear q128
                                        try clear q129
                                        try clear q130
                                        try clear q131
                                        try clear q132
                                        try clear q133
                                        obtain ⟨x8_3, x9_3, rfl, rfl, HA, HK3, HO_3, HO_7, BK121, HB⟩ := hrel
                                        cases gk with
                                        | zero => exact absurd HA.out (by simp [spec_LoopClues.l1])
                                        | succ k3 =>
                                          have H := HA.out
                                          clear HA
                                          simp only [spec_LoopClues.l1] at H
                                          by_cases c35 : x9_3 < 4
                                          · rw [if_pos c35] at H
                                            have c35b0 : decide (x9_3 < 4) = true := decide_eq_true c35
                                            clear c35
                                            by_cases c36 : 0 ≤ x9_3
                                            · rw [if_pos c36] at H
                                              have c36b0 : decide (0 ≤ x9_3) = true := decide_eq_true c36
                                              clear c36
                                              by_cases c37 : x9_3 < (y134.length : Int)
                                              · rw [if_pos c37] at H
                                                have c37b0 : decide (x9_3 < (y134.length : Int)) = true := decide_eq_true c37
                                                clear c37
                                                obtain ⟨bq38, hbq38⟩ : ∃ b_ : Bool, b_ = (rdOf false y134 x9_3) := ⟨_, rfl⟩
                                                replace H : (if bq38 = true then (spec_LoopClues.l1 k3 x3_1 x4_1 y134 (wrap64 (x8_3 + 1)) (wrap64 (x9_3 + 1)) a0_0 a0_1 l0_2 l0_3) else (spec_LoopClues.l1 k3 x3_1 x4_1 y134 x8_3 (wrap64 (x9_3 + 1)) a0_0 a0_1 l0_2 l0_3)) = some r := by rw [← hbq38] at H; exact H
                                                have Nbq38 := Aside0.mk hbq38
                                                clear hbq38
                                                by_cases c39 : bq38 = true
                                                · subst c39
                                                  have H1 : (spec_LoopClues.l1 k3 x3_1 x4_1 y134 (wrap64 (x8_3 + 1)) (wrap64 (x9_3 + 1)) a0_0 a0_1 l0_2 l0_3) = some r := by rw [if_pos rfl] at H; exact H
                                                  clear H
                                                  have H := H1
                                                  clear H1
                                                  have H' := Aside0.mk H
                                                  clear H
                                                  obtain ⟨Ao40, co40, eo40⟩ := Kd.R_slice HO_7.out
                                                  subst eo40
                                                  have p137 : 0 ≤ (x9_3 : Int) := of_decide_eq_true (by first | (with_reducible assumption) | assumption)
                                                  have q137 : x9_3 < (y134.length : Int) := of_decide_eq_true (by first | (with_reducible assumption) | assumption)
                                                  obtain ⟨ad137, e137, hx137_0⟩ := Kd.at_bool (Kd.R_reads' HO_7.out).2.2 x9_3 p137 q137
                                                  (try rw [← Nbq38.out] at hx137_0)
                                                  cases e137
                                                  replace p137 := eq_true p137
                                                  replace q137 := eq_true q137
                                                  go_wp2
                                                  go_roundg k3
                                                  case measure => have := HK1.out; have := HJ4.out; have := HK3.out; omega
                                                  case rel => exact ⟨(wrap64 (x8_3 + 1)), (wrap64 (x9_3 + 1)), (by first | rfl | (simp; done) | (simp [*]; done)), (by first | rfl | (simp; done) | (simp [*]; done)), H', ⟨by have := HK1.out; have := HJ4.out; have := HK3.out; omega⟩, ⟨by (with_reducible repeat (first | apply Kd.R_alloc | apply Kd.R_drewN | apply Kd.R_drew)); exact HO_3.out⟩, ⟨by (with_reducible repeat (first | apply Kd.R_alloc | apply Kd.R_drewN | apply Kd.R_drew)); exact HO_7.out⟩, ⟨by (with_reducible repeat (first | refine blk_drewN ?_ _ | refine blk_drew ?_ | refine blk_alloc ?_ _)); exact BK121.out⟩, ⟨by repeat (first | (with_reducible first | exact HB.out | apply below_alloc | apply pw_below_drewN | apply below_drew1 | refine below_set ?_ GE121.out) | exact HB.out)⟩⟩
                                                · replace c39 := Bool.eq_false_iff.mpr c39
                                                  subst c39
                                                  have H1 : (spec_LoopClues.l1 k3 x3_1 x4_1 y134 x8_3 (wrap64 (x9_3 + 1)) a0_0 a0_1 l0_2 l0_3) = some r := by rw [if_neg (show ¬ (false = true) by decide)] at H; exact H
                                                  clear H
                                                  have H := H1
                                                  clear H1
                                                  have H' := Aside0.mk H
                                                  clear H
                                                  obtain ⟨Ao41, co41, eo41⟩ := Kd.R_slice HO_7.out
                                                  subst eo41
                                                  have p137 : 0 ≤ (x9_3 : Int) := of_decide_eq_true (by first | (with_reducible assumption) | assumption)
                                                  have q137 : x9_3 < (y134.length : Int) := of_decide_eq_true (by first | (with_reducible assumption) | assumption)
                                                  obtain ⟨ad137, e137, hx137_0⟩ := Kd.at_bool (Kd.R_reads' HO_7.out).2.2 x9_3 p137 q137
                                                  (try rw [← Nbq38.out] at hx137_0)
                                                  cases e137
                                                  replace p137 := eq_true p137
                                                  replace q137 := eq_true q137
                                                  go_wp2
                                                  go_roundg k3
                                                  case measure => have := HK1.out; have := HJ4.out; have := HK3.out; omega
                                                  case rel => exact ⟨(x8_3), (wrap64 (x9_3 + 1)), (by first | rfl | (simp; done) | (simp [*]; done)), (by first | rfl | (simp; done) | (simp [*]; done)), H', ⟨by have := HK1.out; have := HJ4.out; have := HK3.out; omega⟩, ⟨by (with_reducible repeat (first | apply Kd.R_alloc | apply Kd.R_drewN | apply Kd.R_drew)); exact HO_3.out⟩, ⟨by (with_reducible repeat (first | apply Kd.R_alloc | apply Kd.R_drewN | apply Kd.R_drew)); exact HO_7.out⟩, ⟨by (with_reducible repeat (first | refine blk_drewN ?_ _ | refine blk_drew ?_ | refine blk_alloc ?_ _)); exact BK121.out⟩, ⟨by repeat (first | (with_reducible first | exact HB.out | apply below_alloc | apply pw_below_drewN | apply below_drew1 | refine below_set ?_ GE121.out) | exact HB.out)⟩⟩
                                              · rw [if_neg c37] at H
                                                exact absurd H (by simp)
                                            · rw [if_neg c36] at H
                                              exact absurd H (by simp)
                                          · rw [if_neg c35] at H
                                            have c35b0 : decide (x9_3 < 4) = false := decide_eq_false c35
                                            clear c35
                                            by_cases c42 : x3_1.length < 17592186044416
                                            · rw [if_pos c42] at H
                                              have LMc42 := Aside0.mk c42
                                              clear c42
                                              obtain ⟨y138, hy138⟩ : ∃ y_ : List Int, y_ = (x3_1 ++ [x8_3]) := ⟨_, rfl⟩
                                              replace H : (spec_LoopClues.l0 k3 y138 (wrap64 (x4_1 + 1)) a0_0 a0_1 l0_2 l0_3) = some r := by first | (rw [hy138]; with_reducible exact H) | (have H2_ := (Option.bind_some _ _).symm.trans H; rw [hy138]; with_reducible exact H2_) | (have H2_ := (Option.bind_some _ _).symm.trans H; with_reducible exact H2_) | with_reducible exact H | (rw [hy138]; exact H) | exact H
                                              have Ny138 := Aside0.mk hy138
                                              clear hy138
                                              have H' := Aside0.mk H
                                              clear H
                                              go_wp2_with (first | ((with_reducible refine gate_builtin (b := .append) (xs := #[.tmp 77, .tmp 79]) rfl ?_); at_builtin; refine Kd.R_append (Kd.int .i64) (w0 := w) w.heap.size rfl (.tmp 77) (.tmp 79) 35 3 (.int .i64 0) 8 rfl Try.underlying35 info3 rfl (by decide) (by omega) u3 x3_1 x8_3 [.int .i64 x8_3] (fun _ => True) (fun _ => False) rfl rfl ?aP (fun _ hk => hk.elim) ?aF ?aO ?aB ?aS ?aL ?_; (case aP => exact rfl); (case aB => exact (by repeat (first | (with_reducible first | exact HB.out | apply below_alloc | apply pw_below_drewN | apply below_drew1 | refine below_set ?_ GE121.out) | exact HB.out))); (case aF => exact (fun _ _ => trivial)); (case aO => exact (by (with_reducible repeat (first | apply Kd.R_alloc | apply Kd.R_drewN | apply Kd.R_drew)); exact HO_3.out)); (case aS => exact (below_size (by repeat (first | (with_reducible first | exact HB.out | apply below_alloc | apply pw_below_drewN | apply below_drew1 | refine below_set ?_ GE121.out) | exact HB.out)))); (case aL => have := LMc42.out; omega); intro v139 w43 ho hb hg hat; rw [← Ny138.out] at ho; have n0_ := Aside0.mk (Kd.R_over' (by (with_reducible repeat (first | apply Kd.R_alloc | apply Kd.R_drewN | apply Kd.R_drew)); exact HO_7.out) (Kd.R_typed (by (with_reducible repeat (first | apply Kd.R_alloc | apply Kd.R_drewN | apply Kd.R_drew)); exact HO_3.out)) (by decide) hg); have n1_ := Aside0.mk (blk_grown (g := gb121) (o := .cells #[.int .i64 a0_0, .int .i64 a0_1, .slice (some ad126) l0_2.length c0_2, .slice (some ad130) l0_3.length c0_3] 25 (0, 0)) (by (with_reducible repeat (first | refine blk_drewN ?_ _ | refine blk_drew ?_ | refine blk_alloc ?_ _)); exact BK121.out) hg (Kd.R_ne HO_3.out BK121.out (by decide))); have n2_ := Aside0.mk (hb); have n3_ := Aside0.mk (ho); clear HO_7; clear BK121; clear HB; clear HO_3; have HO_7 := n0_; have BK121 := n1_; have HB := n2_; have HO140 := n3_; clear n0_ n1_ n2_ n3_; clear ho hb hg hat))
                                              go_roundg k3
                                              case measure => have := HK1.out; have := HJ4.out; have := HK3.out; omega
                                              case rel => exact ⟨(y138), (wrap64 (x4_1 + 1)), (by first | rfl | (simp; done) | (simp [*]; done)), H', ⟨by have := HK1.out; have := HJ4.out; have := HK3.out; omega⟩, ⟨by (with_reducible repeat (first | apply Kd.R_alloc | apply Kd.R_drewN | apply Kd.R_drew)); exact HO140.out⟩, ⟨by (with_reducible repeat (first | refine blk_drewN ?_ _ | refine blk_drew ?_ | refine blk_alloc ?_ _)); exact BK121.out⟩, ⟨by repeat (first | (with_reducible first | exact HB.out | apply below_alloc | apply pw_below_drewN | apply below_drew1 | refine below_set ?_ GE121.out) | exact HB.out)⟩⟩
                                            · rw [if_neg c42] at H
                                              exact absurd H (by simp)
                                    · rw [if_neg c30] at H
                                      exact absurd H (by simp)
                                  · rw [if_neg c29] at H
                                    exact absurd H (by simp)
                                · rw [if_neg c28] at H
                                  exact absurd H (by simp)
                              · rw [if_neg c26] at H
                                exact absurd H (by simp)
                            · rw [if_neg c25] at H
                              exact absurd H (by simp)
                          · rw [if_neg c24] at H
                            exact absurd H (by simp)
                        · rw [if_neg c23] at H
                          exact absurd H (by simp)
                      · rw [if_neg c22] at H
                        exact absurd H (by simp)
                    · rw [if_neg c20] at H
                      exact absurd H (by simp)
                  · rw [if_neg c19] at H
                    exact absurd H (by simp)
                · rw [if_neg c17] at H
                  exact absurd H (by simp)
              · rw [if_neg c16] at H
                exact absurd H (by simp)
          · replace c13 := Bool.eq_false_iff.mpr c13
            subst c13
            have H1 : (some x3_1) = some r := by rw [if_neg (show ¬ (false = true) by decide)] at H; exact H
            clear H
            have H := H1
            clear H1
            obtain rfl := Option.some.inj H
            go_wp2
            go_ret
            exact ⟨_, by first | rfl | (simp [errW_none, errW_some] <;> rfl) | (simp [*, errW_none, errW_some] <;> rfl), by (with_reducible repeat (first | apply Kd.R_alloc | apply Kd.R_drewN | apply Kd.R_drew)); exact HO_3.out, by repeat (first | (with_reducible first | exact HB.out | apply below_alloc | apply pw_below_drewN | apply below_drew1 | refine below_set ?_ GE121.out) | exact HB.out)⟩

end Go.Proofs.Ytncmneliinbjdaa.PMk
