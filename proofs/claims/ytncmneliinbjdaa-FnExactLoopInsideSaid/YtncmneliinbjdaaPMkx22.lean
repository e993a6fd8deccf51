/- Functions of the program, and what a call comes to. No conditions. -/
import Derived.Test.YtncmneliinbjdaaPMkx0
namespace Go.Proofs.Ytncmneliinbjdaa.PMk
open Go.RowKit Go.Proofs.YtncmneliinbjdaaW.PrintWords Go.Proofs.YtncmneliinbjdaaW.PrintLast Go.Proofs.YtncmneliinbjdaaW.PrintMore
set_option linter.unusedVariables false
set_option linter.unusedSimpArgs false

/-! ### spec_l17Degree: function 63 -/
mutual
def spec_l17Degree.j0 : Nat → Int → Int → Int → Bool → Int → Int → List (List Bool) → List (List Bool) → Option (Int)
 | 0, _, _, _, _, _, _, _, _ => none
 | k + 1, x1, x2, x7, x21, x244000, x244001, x244002, x244003 => if x21 = true then (spec_l17Degree.j1 k x1 x2 (wrap64 (x7 + 1)) x244000 x244001 x244002 x244003) else (spec_l17Degree.j1 k x1 x2 x7 x244000 x244001 x244002 x244003)
def spec_l17Degree.j1 : Nat → Int → Int → Int → Int → Int → List (List Bool) → List (List Bool) → Option (Int)
 | 0, _, _, _, _, _, _, _ => none
 | k + 1, x1, x2, x7, x244000, x244001, x244002, x244003 => if x2 > 0 then (if 0 ≤ x1 then (if x1 < (x244002.length : Int) then (if 0 ≤ (wrap64 (x2 - 1)) then (if (wrap64 (x2 - 1)) < ((rd_L1 x244002 x1).length : Int) then (spec_l17Degree.j2 k x1 x2 x7 (rdOf false (rd_L1 x244002 x1) (wrap64 (x2 - 1))) x244000 x244001 x244002 x244003) else (none)) else (none)) else (none)) else (none)) else (spec_l17Degree.j2 k x1 x2 x7 false x244000 x244001 x244002 x244003)
def spec_l17Degree.j2 : Nat → Int → Int → Int → Bool → Int → Int → List (List Bool) → List (List Bool) → Option (Int)
 | 0, _, _, _, _, _, _, _, _ => none
 | k + 1, x1, x2, x7, x36, x244000, x244001, x244002, x244003 => if x36 = true then (spec_l17Degree.j3 k x1 x2 (wrap64 (x7 + 1)) x244000 x244001 x244002 x244003) else (spec_l17Degree.j3 k x1 x2 x7 x244000 x244001 x244002 x244003)
def spec_l17Degree.j3 : Nat → Int → Int → Int → Int → Int → List (List Bool) → List (List Bool) → Option (Int)
 | 0, _, _, _, _, _, _, _ => none
 | k + 1, x1, x2, x7, x244000, x244001, x244002, x244003 => if x1 < x244000 then (if 0 ≤ x2 then (if x2 < (x244003.length : Int) then (if 0 ≤ x1 then (if x1 < ((rd_L1 x244003 x2).length : Int) then (spec_l17Degree.j4 k x1 x2 x7 (rdOf false (rd_L1 x244003 x2) x1) x244000 x244001 x244002 x244003) else (none)) else (none)) else (none)) else (none)) else (spec_l17Degree.j4 k x1 x2 x7 false x244000 x244001 x244002 x244003)
def spec_l17Degree.j4 : Nat → Int → Int → Int → Bool → Int → Int → List (List Bool) → List (List Bool) → Option (Int)
 | 0, _, _, _, _, _, _, _, _ => none
 | k + 1, x1, x2, x7, x52, x244000, x244001, x244002, x244003 => if x52 = true then (if x1 > 0 then (if 0 ≤ x2 then (if x2 < (x244003.length : Int) then (if 0 ≤ (wrap64 (x1 - 1)) then (if (wrap64 (x1 - 1)) < ((rd_L1 x244003 x2).length : Int) then (if rdOf false (rd_L1 x244003 x2) (wrap64 (x1 - 1)) = true then (some (wrap64 ((wrap64 (x7 + 1)) + 1))) else (some (wrap64 (x7 + 1)))) else (none)) else (none)) else (none)) else (none)) else (some (wrap64 (x7 + 1)))) else (if x1 > 0 then (if 0 ≤ x2 then (if x2 < (x244003.length : Int) then (if 0 ≤ (wrap64 (x1 - 1)) then (if (wrap64 (x1 - 1)) < ((rd_L1 x244003 x2).length : Int) then (if rdOf false (rd_L1 x244003 x2) (wrap64 (x1 - 1)) = true then (some (wrap64 (x7 + 1))) else (some x7)) else (none)) else (none)) else (none)) else (none)) else (some x7))
end
def spec_l17Degree.f (k : Nat) (a0_0 : Int) (a0_1 : Int) (l0_2 : List (List Bool)) (l0_3 : List (List Bool)) (a1 : Int) (a2 : Int) : Option (Int) := if a2 < a0_1 then (if 0 ≤ a1 then (if a1 < (l0_2.length : Int) then (if 0 ≤ a2 then (if a2 < ((rd_L1 l0_2 a1).length : Int) then (spec_l17Degree.j0 k a1 a2 0 (rdOf false (rd_L1 l0_2 a1) a2) a0_0 a0_1 l0_2 l0_3) else (none)) else (none)) else (none)) else (none)) else (spec_l17Degree.j0 k a1 a2 0 false a0_0 a0_1 l0_2 l0_3)
theorem spec_l17Degree.mono_l : ∀ k, (∀ y0 y1 y2 y3 y4 y5 y6 y7, LeO (spec_l17Degree.j0 k y0 y1 y2 y3 y4 y5 y6 y7) (spec_l17Degree.j0 (k + 1) y0 y1 y2 y3 y4 y5 y6 y7)) ∧ (∀ y0 y1 y2 y3 y4 y5 y6, LeO (spec_l17Degree.j1 k y0 y1 y2 y3 y4 y5 y6) (spec_l17Degree.j1 (k + 1) y0 y1 y2 y3 y4 y5 y6)) ∧ (∀ y0 y1 y2 y3 y4 y5 y6 y7, LeO (spec_l17Degree.j2 k y0 y1 y2 y3 y4 y5 y6 y7) (spec_l17Degree.j2 (k + 1) y0 y1 y2 y3 y4 y5 y6 y7)) ∧ (∀ y0 y1 y2 y3 y4 y5 y6, LeO (spec_l17Degree.j3 k y0 y1 y2 y3 y4 y5 y6) (spec_l17Degree.j3 (k + 1) y0 y1 y2 y3 y4 y5 y6)) ∧ (∀ y0 y1 y2 y3 y4 y5 y6 y7, LeO (spec_l17Degree.j4 k y0 y1 y2 y3 y4 y5 y6 y7) (spec_l17Degree.j4 (k + 1) y0 y1 y2 y3 y4 y5 y6 y7))
 | 0 => ⟨fun _ _ _ _ _ _ _ _ r h => by simp [spec_l17Degree.j0] at h, fun _ _ _ _ _ _ _ r h => by simp [spec_l17Degree.j1] at h, fun _ _ _ _ _ _ _ _ r h => by simp [spec_l17Degree.j2] at h, fun _ _ _ _ _ _ _ r h => by simp [spec_l17Degree.j3] at h, fun _ _ _ _ _ _ _ _ r h => by simp [spec_l17Degree.j4] at h⟩
 | k + 1 => by
  obtain ⟨ih0, ih1, ih2, ih3, ih4⟩ := spec_l17Degree.mono_l k
  refine ⟨?_, ?_, ?_, ?_, ?_⟩
  ·intro y0 y1 y2 y3 y4 y5 y6 y7
   unfold spec_l17Degree.j0
   repeat' first | (with_reducible first | exact ih0 _ _ _ _ _ _ _ _ | exact ih1 _ _ _ _ _ _ _ | exact ih2 _ _ _ _ _ _ _ _ | exact ih3 _ _ _ _ _ _ _ | exact ih4 _ _ _ _ _ _ _ _ | exact LeO.refl _ | exact LeO.none _ | refine LeO.ite ?_ ?_ | refine LeO.bind ?_ (fun _ => ?_)) | exact LeO.none _ | refine LeO.ite ?_ ?_ | refine LeO.bind ?_ (fun _ => ?_)
  ·intro y0 y1 y2 y3 y4 y5 y6
   unfold spec_l17Degree.j1
   repeat' first | (with_reducible first | exact ih0 _ _ _ _ _ _ _ _ | exact ih1 _ _ _ _ _ _ _ | exact ih2 _ _ _ _ _ _ _ _ | exact ih3 _ _ _ _ _ _ _ | exact ih4 _ _ _ _ _ _ _ _ | exact LeO.refl _ | exact LeO.none _ | refine LeO.ite ?_ ?_ | refine LeO.bind ?_ (fun _ => ?_)) | exact LeO.none _ | refine LeO.ite ?_ ?_ | refine LeO.bind ?_ (fun _ => ?_)
  ·intro y0 y1 y2 y3 y4 y5 y6 y7
   unfold spec_l17Degree.j2
   repeat' first | (with_reducible first | exact ih0 _ _ _ _ _ _ _ _ | exact ih1 _ _ _ _ _ _ _ | exact ih2 _ _ _ _ _ _ _ _ | exact ih3 _ _ _ _ _ _ _ | exact ih4 _ _ _ _ _ _ _ _ | exact LeO.refl _ | exact LeO.none _ | refine LeO.ite ?_ ?_ | refine LeO.bind ?_ (fun _ => ?_)) | exact LeO.none _ | refine LeO.ite ?_ ?_ | refine LeO.bind ?_ (fun _ => ?_)
  ·intro y0 y1 y2 y3 y4 y5 y6
   unfold spec_l17Degree.j3
   repeat' first | (with_reducible first | exact ih0 _ _ _ _ _ _ _ _ | exact ih1 _ _ _ _ _ _ _ | exact ih2 _ _ _ _ _ _ _ _ | exact ih3 _ _ _ _ _ _ _ | exact ih4 _ _ _ _ _ _ _ _ | exact LeO.refl _ | exact LeO.none _ | refine LeO.ite ?_ ?_ | refine LeO.bind ?_ (fun _ => ?_)) | exact LeO.none _ | refine LeO.ite ?_ ?_ | refine LeO.bind ?_ (fun _ => ?_)
  ·intro y0 y1 y2 y3 y4 y5 y6 y7
   unfold spec_l17Degree.j4
   repeat' first | (with_reducible first | exact ih0 _ _ _ _ _ _ _ _ | exact ih1 _ _ _ _ _ _ _ | exact ih2 _ _ _ _ _ _ _ _ | exact ih3 _ _ _ _ _ _ _ | exact ih4 _ _ _ _ _ _ _ _ | exact LeO.refl _ | exact LeO.none _ | refine LeO.ite ?_ ?_ | refine LeO.bind ?_ (fun _ => ?_)) | exact LeO.none _ | refine LeO.ite ?_ ?_ | refine LeO.bind ?_ (fun _ => ?_)
theorem spec_l17Degree.mono : ∀ a0 a1 a2 a3 a4 a5 k, LeO (spec_l17Degree.f k a0 a1 a2 a3 a4 a5) (spec_l17Degree.f (k + 1) a0 a1 a2 a3 a4 a5) := by
 intro a0 a1 a2 a3 a4 a5 k
 obtain ⟨ih0, ih1, ih2, ih3, ih4⟩ := spec_l17Degree.mono_l k
 unfold spec_l17Degree.f
 repeat' first | (with_reducible first | exact ih0 _ _ _ _ _ _ _ _ | exact ih1 _ _ _ _ _ _ _ | exact ih2 _ _ _ _ _ _ _ _ | exact ih3 _ _ _ _ _ _ _ | exact ih4 _ _ _ _ _ _ _ _ | exact LeO.refl _ | exact LeO.none _ | refine LeO.ite ?_ ?_ | refine LeO.bind ?_ (fun _ => ?_)) | exact LeO.none _ | refine LeO.ite ?_ ?_ | refine LeO.bind ?_ (fun _ => ?_)
set_option maxHeartbeats 8000000 in
set_option maxRecDepth 100000 in
theorem spec_l17Degree.calls (k : Nat) (a0_0 : Int) (a0_1 : Int) (A0_2 : Option Addr) (c0_2 : Nat) (l0_2 : List (List Bool)) (A0_3 : Option Addr) (c0_3 : Nat) (l0_3 : List (List Bool)) (a1 : Int) (a2 : Int) (r : Int) (w : World) (hr0_2 : Kd.C (Kd.slice 4 Kd.bool) w A0_2 l0_2.length l0_2) (hc0_2 : l0_2.length ≤ c0_2) (hr0_3 : Kd.C (Kd.slice 4 Kd.bool) w A0_3 l0_3.length l0_3) (hc0_3 : l0_3.length ≤ c0_3) (h : spec_l17Degree.f k a0_0 a0_1 l0_2 l0_3 a1 a2 = some r) :
  Calls Try.prog 63 #[.agg #[.int .i64 a0_0, .int .i64 a0_1, .slice A0_2 l0_2.length c0_2, .slice A0_3 l0_3.length c0_3], .int .i64 a1, .int .i64 a2] w fun e w' => e = .returned (.int .i64 r) ∧ Below w.heap.size w w' := by
 have hu25 := Try.underlying25
 have HR0_2 := asd hr0_2
 have HC0_2 := asd hc0_2
 clear hr0_2 hc0_2
 have HR0_3 := asd hr0_3
 have HC0_3 := asd hc0_3
 clear hr0_3 hc0_3
 have HB := asd (Below.refl w.heap.size w)
 have H : (if a2 < a0_1 then (if 0 ≤ a1 then (if a1 < (l0_2.length : Int) then (if 0 ≤ a2 then (if a2 < ((rd_L1 l0_2 a1).length : Int) then (spec_l17Degree.j0 k a1 a2 0 (rdOf false (rd_L1 l0_2 a1) a2) a0_0 a0_1 l0_2 l0_3) else (none)) else (none)) else (none)) else (none)) else (spec_l17Degree.j0 k a1 a2 0 false a0_0 a0_1 l0_2 l0_3)) = some r := h
 clear h
 have HC4 := asd H
 clear H
 go_enter Try.func63, Try.ntmps63
 go_upto_region 2 with (first | ((with_reducible refine gate_dst (N := 3) rfl ?_); refine box_event ?hg (N := 3) ?hd (cs := #[.int .i64 a0_0, .int .i64 a0_1, .slice A0_2 l0_2.length c0_2, .slice A0_3 l0_3.length c0_3]) (t := 25) ?hr ?_; (case hd => rfl); (case hg => rfl); (case hr => first | (go_simp; done) | (go_simp; rfl)); intro gb243 hg w5 hbox hb; have n0_ := asd (below_step (by repeat (first | (with_reducible first | exact HB.out | apply below_alloc | apply pw_below_drewN | apply below_drew1) | exact HB.out)) hb); have n1_ := asd (hbox); have n2_ := asd ((by rw [hg]; exact (below_size (by repeat (first | (with_reducible first | exact HB.out | apply below_alloc | apply pw_below_drewN | apply below_drew1) | exact HB.out))) : w.heap.size ≤ gb243)); have n3_ := asd ((by rw [hg]; exact (below_size (by repeat (first | (with_reducible first | exact HB.out | apply below_alloc | apply pw_below_drewN | apply below_drew1) | exact HB.out))) : w.heap.size ≤ gb243)); clear HB; have HB := n0_; have BK243 := n1_; have GW243 := n2_; have GE243 := n3_; clear n0_ n1_ n2_ n3_; clear hb hbox hg))
 (try simp only [Act.put, List.setIfInBounds_toArray, List.set_cons_zero, List.set_cons_succ])
 go_cut [21] (fun v21 wc => ∃ (kq : Nat) (x21_3 : Bool), v21 = .bool x21_3 ∧ Aside0 (spec_l17Degree.j0 kq a1 a2 0 x21_3 a0_0 a0_1 l0_2 l0_3 = some r) ∧ Aside0 (kq ≤ k) ∧ Aside0 (wc.heap[gb243]? = some (.cells #[.int .i64 a0_0, .int .i64 a0_1, (.slice A0_2 l0_2.length c0_2), (.slice A0_3 l0_3.length c0_3)] 25 (0, 0))) ∧ Aside0 (Below w.heap.size w wc))
 case first =>
  have H := HC4.out
  clear HC4
  by_cases c6 : a2 < a0_1
  ·rw [if_pos c6] at H
   have c6b0 : decide (a2 < a0_1) = true := decide_eq_true c6
   clear c6
   (first | rw [c6b0] | (simp only [i64_w, i32_w]; rw [c6b0]) | skip)
   by_cases c7 : 0 ≤ a1
   ·rw [if_pos c7] at H
    have c7b0 : decide (0 ≤ a1) = true := decide_eq_true c7
    clear c7
    by_cases c8 : a1 < (l0_2.length : Int)
    ·rw [if_pos c8] at H
     have c8b0 : decide (a1 < (l0_2.length : Int)) = true := decide_eq_true c8
     clear c8
     by_cases c9 : 0 ≤ a2
     ·rw [if_pos c9] at H
      have c9b0 : decide (0 ≤ a2) = true := decide_eq_true c9
      clear c9
      by_cases c10 : a2 < ((rd_L1 l0_2 a1).length : Int)
      ·rw [if_pos c10] at H
       have c10b0 : decide (a2 < ((rd_L1 l0_2 a1).length : Int)) = true := decide_eq_true c10
       clear c10
       have H' := asd H
       clear H
       have hcz11_0 : w5.cell? ⟨gb243, 0, none⟩ = some (.int .i64 a0_0) := (blk_cell BK243.out 0).trans rfl
       have hcz11_1 : w5.cell? ⟨gb243, 1, none⟩ = some (.int .i64 a0_1) := (blk_cell BK243.out 1).trans rfl
       have hcz11_2 : w5.cell? ⟨gb243, 2, none⟩ = some (.slice A0_2 l0_2.length c0_2) := (blk_cell BK243.out 2).trans rfl
       have hcz11_3 : w5.cell? ⟨gb243, 3, none⟩ = some (.slice A0_3 l0_3.length c0_3) := (blk_cell BK243.out 3).trans rfl
       have hfz11_0 := blk_frozen BK243.out 0
       have hfz11_1 := blk_frozen BK243.out 1
       have hfz11_2 := blk_frozen BK243.out 2
       have hfz11_3 := blk_frozen BK243.out 3
       have p244 : 0 ≤ (a1 : Int) := of_decide_eq_true (by first | (with_reducible assumption) | assumption)
       have q244 : a1 < (l0_2.length : Int) := of_decide_eq_true (by first | (with_reducible assumption) | assumption)
       obtain ⟨ad244, A244_0, c244_0, e244, hx244_0, hl244_0, hi244_0⟩ := at_L1 HR0_2.out a1 p244 q244
       cases e244
       replace hx244_0 := (HB.out.cell (World.block_lt_of_cell? w _ hx244_0)).trans hx244_0
       have HR244_0 := asd hi244_0
       have HC244_0 := asd hl244_0
       clear hi244_0 hl244_0
       replace p244 := eq_true p244
       replace q244 := eq_true q244
       have p245 : 0 ≤ (a2 : Int) := of_decide_eq_true (by first | (with_reducible assumption) | assumption)
       have q245 : a2 < ((rd_L1 l0_2 a1).length : Int) := of_decide_eq_true (by first | (with_reducible assumption) | assumption)
       obtain ⟨ad245, e245, hx245_0⟩ := Kd.at_bool HR244_0.out a2 p245 q245
       cases e245
       replace hx245_0 := (HB.out.cell (World.block_lt_of_cell? w _ hx245_0)).trans hx245_0
       replace p245 := eq_true p245
       replace q245 := eq_true q245
       go_wp2
       go_meet
       case rel => exact ⟨_, (rdOf false (rd_L1 l0_2 a1) a2), (by first | rfl | (simp; done) | (simp [*]; done)), H', ⟨by first | omega | exact Nat.le_refl _⟩, ⟨by (with_reducible repeat (first | refine blk_drewN ?_ _ | refine blk_drew ?_ | refine blk_alloc ?_ _)); exact BK243.out⟩, ⟨by repeat (first | (with_reducible first | exact HB.out | apply below_alloc | apply pw_below_drewN | apply below_drew1 | refine below_set ?_ GE243.out) | exact HB.out)⟩⟩
      ·rw [if_neg c10] at H
       exact absurd H (by simp)
     ·rw [if_neg c9] at H
      exact absurd H (by simp)
    ·rw [if_neg c8] at H
     exact absurd H (by simp)
   ·rw [if_neg c7] at H
    exact absurd H (by simp)
  ·rw [if_neg c6] at H
   have c6b0 : decide (a2 < a0_1) = false := decide_eq_false c6
   clear c6
   (first | rw [c6b0] | (simp only [i64_w, i32_w]; rw [c6b0]) | skip)
   have H' := asd H
   clear H
   have hcz12_0 : w5.cell? ⟨gb243, 0, none⟩ = some (.int .i64 a0_0) := (blk_cell BK243.out 0).trans rfl
   have hcz12_1 : w5.cell? ⟨gb243, 1, none⟩ = some (.int .i64 a0_1) := (blk_cell BK243.out 1).trans rfl
   have hcz12_2 : w5.cell? ⟨gb243, 2, none⟩ = some (.slice A0_2 l0_2.length c0_2) := (blk_cell BK243.out 2).trans rfl
   have hcz12_3 : w5.cell? ⟨gb243, 3, none⟩ = some (.slice A0_3 l0_3.length c0_3) := (blk_cell BK243.out 3).trans rfl
   have hfz12_0 := blk_frozen BK243.out 0
   have hfz12_1 := blk_frozen BK243.out 1
   have hfz12_2 := blk_frozen BK243.out 2
   have hfz12_3 := blk_frozen BK243.out 3
   go_wp2
   go_meet
   case rel => exact ⟨_, (false), (by first | rfl | (simp; done) | (simp [*]; done)), H', ⟨by first | omega | exact Nat.le_refl _⟩, ⟨by (with_reducible repeat (first | refine blk_drewN ?_ _ | refine blk_drew ?_ | refine blk_alloc ?_ _)); exact BK243.out⟩, ⟨by repeat (first | (with_reducible first | exact HB.out | apply below_alloc | apply pw_below_drewN | apply below_drew1 | refine below_set ?_ GE243.out) | exact HB.out)⟩⟩
 case rest =>
  clear HC4; try clear c1; try clear c2; try clear p2; try clear q2; try clear hx2; try clear c6; try clear c6b0; try clear c7; try clear c7b0; try clear c8; try clear c8b0; try clear c9; try clear c9b0; try clear c10; try clear c10b0; try clear hcz11_0; try clear hcz11_1; try clear hcz11_2; try clear hcz11_3; try clear hcz12_0; try clear hcz12_1; try clear hcz12_2; try clear hcz12_3; try clear hfz11_0; try clear hfz11_1; try clear hfz11_2; try clear hfz11_3; try clear hfz12_0; try clear hfz12_1; try clear hfz12_2; try clear hfz12_3; try clear hx244_0; try clear hx245_0; try clear p244; try clear p245; try clear q244; try clear q245
  obtain ⟨kq, x21_3, rfl, HA, HJ3, BK243, HB⟩ := hcut
  cases kq with
  | zero => exact absurd HA.out (by simp [spec_l17Degree.j0])
  | succ kj3 =>
   have H := HA.out
   clear HA
   simp only [spec_l17Degree.j0] at H
   have HC13 := asd H
   clear H
   go_upto_if 21 with (fail)
   go_cut [7] (fun v7 wc => ∃ (kq : Nat) (x7_12 : Int), v7 = .int .i64 x7_12 ∧ Aside0 (spec_l17Degree.j1 kq a1 a2 x7_12 a0_0 a0_1 l0_2 l0_3 = some r) ∧ Aside0 (kq ≤ kj3) ∧ Aside0 (wc.heap[gb243]? = some (.cells #[.int .i64 a0_0, .int .i64 a0_1, (.slice A0_2 l0_2.length c0_2), (.slice A0_3 l0_3.length c0_3)] 25 (0, 0))) ∧ Aside0 (Below w.heap.size w wc))
   case first =>
    have H := HC13.out
    clear HC13
    by_cases c14 : x21_3 = true
    ·subst c14
     have H1 : (spec_l17Degree.j1 kj3 a1 a2 (wrap64 (0 + 1)) a0_0 a0_1 l0_2 l0_3) = some r := by rw [if_pos rfl] at H; exact H
     clear H
     have H := H1
     clear H1
     have H' := asd H
     clear H
     go_wp2
     go_meet
     case rel => exact ⟨_, (wrap64 (0 + 1)), (by first | rfl | (simp; done) | (simp [wrap64]; done)), H', ⟨by have := HJ3.out; first | omega | exact Nat.le_refl _⟩, ⟨by (with_reducible repeat (first | refine blk_drewN ?_ _ | refine blk_drew ?_ | refine blk_alloc ?_ _)); exact BK243.out⟩, ⟨by repeat (first | (with_reducible first | exact HB.out | apply below_alloc | apply pw_below_drewN | apply below_drew1 | refine below_set ?_ GE243.out) | exact HB.out)⟩⟩
    ·replace c14 := Bool.eq_false_iff.mpr c14
     subst c14
     have H1 : (spec_l17Degree.j1 kj3 a1 a2 0 a0_0 a0_1 l0_2 l0_3) = some r := by rw [if_neg (show ¬ (false = true) by decide)] at H; exact H
     clear H
     have H := H1
     clear H1
     have H' := asd H
     clear H
     go_wp2
     go_meet
     case rel => exact ⟨_, (0), (by first | rfl | (simp; done) | (simp [*]; done)), H', ⟨by have := HJ3.out; first | omega | exact Nat.le_refl _⟩, ⟨by (with_reducible repeat (first | refine blk_drewN ?_ _ | refine blk_drew ?_ | refine blk_alloc ?_ _)); exact BK243.out⟩, ⟨by repeat (first | (with_reducible first | exact HB.out | apply below_alloc | apply pw_below_drewN | apply below_drew1 | refine below_set ?_ GE243.out) | exact HB.out)⟩⟩
   case rest =>
    clear HC13; try clear p6; try clear c14
    obtain ⟨kq, x7_12, rfl, HA, HJ12, BK243, HB⟩ := hcut
    cases kq with
    | zero => exact absurd HA.out (by simp [spec_l17Degree.j1])
    | succ kj12 =>
     have H := HA.out
     clear HA
     simp only [spec_l17Degree.j1] at H
     have HC15 := asd H
     clear H
     go_upto_region 4 with (fail)
     go_cut [36] (fun v36 wc => ∃ (kq : Nat) (x36_14 : Bool), v36 = .bool x36_14 ∧ Aside0 (spec_l17Degree.j2 kq a1 a2 x7_12 x36_14 a0_0 a0_1 l0_2 l0_3 = some r) ∧ Aside0 (kq ≤ kj12) ∧ Aside0 (wc.heap[gb243]? = some (.cells #[.int .i64 a0_0, .int .i64 a0_1, (.slice A0_2 l0_2.length c0_2), (.slice A0_3 l0_3.length c0_3)] 25 (0, 0))) ∧ Aside0 (Below w.heap.size w wc))
     case first =>
      have H := HC15.out
      clear HC15
      by_cases c16 : a2 > 0
      ·rw [if_pos c16] at H
       have c16b0 : decide (0 < a2) = true := decide_eq_true c16
       clear c16
       (first | rw [c16b0] | (simp only [i64_w, i32_w]; rw [c16b0]) | skip)
       by_cases c17 : 0 ≤ a1
       ·rw [if_pos c17] at H
        have c17b0 : decide (0 ≤ a1) = true := decide_eq_true c17
        clear c17
        by_cases c18 : a1 < (l0_2.length : Int)
        ·rw [if_pos c18] at H
         have c18b0 : decide (a1 < (l0_2.length : Int)) = true := decide_eq_true c18
         clear c18
         obtain ⟨ji19, hji19⟩ : ∃ j_ : Int, (wrap64 (a2 - 1)) = j_ := ⟨_, rfl⟩
         replace H : (if 0 ≤ (ji19) then (if (ji19) < ((rd_L1 l0_2 a1).length : Int) then (spec_l17Degree.j2 kj12 a1 a2 x7_12 (rdOf false (rd_L1 l0_2 a1) (ji19)) a0_0 a0_1 l0_2 l0_3) else (none)) else (none)) = some r := by first | (rw [hji19] at H; exact H) | (simp only [hji19] at H ⊢; exact H)
         have hji19w : (IntKind.i64.wrap (a2 - 1)) = ji19 := (i64_w _).trans hji19
         by_cases c20 : 0 ≤ (ji19)
         ·rw [if_pos c20] at H
          have c20b0 : decide (0 ≤ (ji19)) = true := decide_eq_true c20
          clear c20
          by_cases c21 : (ji19) < ((rd_L1 l0_2 a1).length : Int)
          ·rw [if_pos c21] at H
           have c21b0 : decide ((ji19) < ((rd_L1 l0_2 a1).length : Int)) = true := decide_eq_true c21
           clear c21
           have H' := asd H
           clear H
           have hcz22_0 : wc.cell? ⟨gb243, 0, none⟩ = some (.int .i64 a0_0) := (blk_cell BK243.out 0).trans rfl
           have hcz22_1 : wc.cell? ⟨gb243, 1, none⟩ = some (.int .i64 a0_1) := (blk_cell BK243.out 1).trans rfl
           have hcz22_2 : wc.cell? ⟨gb243, 2, none⟩ = some (.slice A0_2 l0_2.length c0_2) := (blk_cell BK243.out 2).trans rfl
           have hcz22_3 : wc.cell? ⟨gb243, 3, none⟩ = some (.slice A0_3 l0_3.length c0_3) := (blk_cell BK243.out 3).trans rfl
           have hfz22_0 := blk_frozen BK243.out 0
           have hfz22_1 := blk_frozen BK243.out 1
           have hfz22_2 := blk_frozen BK243.out 2
           have hfz22_3 := blk_frozen BK243.out 3
           have p246 : 0 ≤ (a1 : Int) := of_decide_eq_true (by first | (with_reducible assumption) | assumption)
           have q246 : a1 < (l0_2.length : Int) := of_decide_eq_true (by first | (with_reducible assumption) | assumption)
           obtain ⟨ad246, A246_0, c246_0, e246, hx246_0, hl246_0, hi246_0⟩ := at_L1 HR0_2.out a1 p246 q246
           cases e246
           replace hx246_0 := (HB.out.cell (World.block_lt_of_cell? w _ hx246_0)).trans hx246_0
           have HR246_0 := asd hi246_0
           have HC246_0 := asd hl246_0
           clear hi246_0 hl246_0
           replace p246 := eq_true p246
           replace q246 := eq_true q246
           have p247 : 0 ≤ ((ji19) : Int) := of_decide_eq_true (by first | (with_reducible assumption) | assumption)
           have q247 : (ji19) < ((rd_L1 l0_2 a1).length : Int) := of_decide_eq_true (by first | (with_reducible assumption) | assumption)
           obtain ⟨ad247, e247, hx247_0⟩ := Kd.at_bool HR246_0.out (ji19) p247 q247
           cases e247
           replace hx247_0 := (HB.out.cell (World.block_lt_of_cell? w _ hx247_0)).trans hx247_0
           replace p247 := eq_true p247
           replace q247 := eq_true q247
           go_wp2
           go_meet
           case rel => exact ⟨_, (rdOf false (rd_L1 l0_2 a1) (ji19)), (by first | rfl | (simp; done) | (simp only [← hji19] <;> (first | rfl | simp)) | (simp [*]; done)), H', ⟨by have := HJ3.out; have := HJ12.out; first | omega | exact Nat.le_refl _⟩, ⟨by (with_reducible repeat (first | refine blk_drewN ?_ _ | refine blk_drew ?_ | refine blk_alloc ?_ _)); exact BK243.out⟩, ⟨by repeat (first | (with_reducible first | exact HB.out | apply below_alloc | apply pw_below_drewN | apply below_drew1 | refine below_set ?_ GE243.out) | exact HB.out)⟩⟩
          ·rw [if_neg c21] at H
           exact absurd H (by simp)
         ·rw [if_neg c20] at H
          exact absurd H (by simp)
        ·rw [if_neg c18] at H
         exact absurd H (by simp)
       ·rw [if_neg c17] at H
        exact absurd H (by simp)
      ·rw [if_neg c16] at H
       have c16b0 : decide (0 < a2) = false := decide_eq_false c16
       clear c16
       (first | rw [c16b0] | (simp only [i64_w, i32_w]; rw [c16b0]) | skip)
       have H' := asd H
       clear H
       go_wp2
       go_meet
       case rel => exact ⟨_, (false), (by first | rfl | (simp; done) | (simp [*]; done)), H', ⟨by have := HJ3.out; have := HJ12.out; first | omega | exact Nat.le_refl _⟩, ⟨by (with_reducible repeat (first | refine blk_drewN ?_ _ | refine blk_drew ?_ | refine blk_alloc ?_ _)); exact BK243.out⟩, ⟨by repeat (first | (with_reducible first | exact HB.out | apply below_alloc | apply pw_below_drewN | apply below_drew1 | refine below_set ?_ GE243.out) | exact HB.out)⟩⟩
     case rest =>
      clear HC15; try clear c16; try clear c16b0; try clear c17; try clear c17b0; try clear c18; try clear c18b0; try clear c20; try clear c20b0; try clear c21; try clear c21b0; try clear hcz22_0; try clear hcz22_1; try clear hcz22_2; try clear hcz22_3; try clear hfz22_0; try clear hfz22_1; try clear hfz22_2; try clear hfz22_3; try clear hx246_0; try clear hx247_0; try clear p246; try clear p247; try clear q246; try clear q247
      obtain ⟨kq, x36_14, rfl, HA, HJ14, BK243, HB⟩ := hcut
      cases kq with
      | zero => exact absurd HA.out (by simp [spec_l17Degree.j2])
      | succ kj14 =>
       have H := HA.out
       clear HA
       simp only [spec_l17Degree.j2] at H
       have HC23 := asd H
       clear H
       go_upto_if 36 with (fail)
       go_cut [7] (fun v7 wc => ∃ (kq : Nat) (x7_22 : Int), v7 = .int .i64 x7_22 ∧ Aside0 (spec_l17Degree.j3 kq a1 a2 x7_22 a0_0 a0_1 l0_2 l0_3 = some r) ∧ Aside0 (kq ≤ kj14) ∧ Aside0 (wc.heap[gb243]? = some (.cells #[.int .i64 a0_0, .int .i64 a0_1, (.slice A0_2 l0_2.length c0_2), (.slice A0_3 l0_3.length c0_3)] 25 (0, 0))) ∧ Aside0 (Below w.heap.size w wc))
       case first =>
        have H := HC23.out
        clear HC23
        by_cases c24 : x36_14 = true
        ·subst c24
         have H1 : (spec_l17Degree.j3 kj14 a1 a2 (wrap64 (x7_12 + 1)) a0_0 a0_1 l0_2 l0_3) = some r := by rw [if_pos rfl] at H; exact H
         clear H
         have H := H1
         clear H1
         have H' := asd H
         clear H
         go_wp2
         go_meet
         case rel => exact ⟨_, (wrap64 (x7_12 + 1)), (by first | rfl | (simp; done) | (simp [*]; done)), H', ⟨by have := HJ3.out; have := HJ12.out; have := HJ14.out; first | omega | exact Nat.le_refl _⟩, ⟨by (with_reducible repeat (first | refine blk_drewN ?_ _ | refine blk_drew ?_ | refine blk_alloc ?_ _)); exact BK243.out⟩, ⟨by repeat (first | (with_reducible first | exact HB.out | apply below_alloc | apply pw_below_drewN | apply below_drew1 | refine below_set ?_ GE243.out) | exact HB.out)⟩⟩
        ·replace c24 := Bool.eq_false_iff.mpr c24
         subst c24
         have H1 : (spec_l17Degree.j3 kj14 a1 a2 x7_12 a0_0 a0_1 l0_2 l0_3) = some r := by rw [if_neg (show ¬ (false = true) by decide)] at H; exact H
         clear H
         have H := H1
         clear H1
         have H' := asd H
         clear H
         go_wp2
         go_meet
         case rel => exact ⟨_, (x7_12), (by first | rfl | (simp; done) | (simp [*]; done)), H', ⟨by have := HJ3.out; have := HJ12.out; have := HJ14.out; first | omega | exact Nat.le_refl _⟩, ⟨by (with_reducible repeat (first | refine blk_drewN ?_ _ | refine blk_drew ?_ | refine blk_alloc ?_ _)); exact BK243.out⟩, ⟨by repeat (first | (with_reducible first | exact HB.out | apply below_alloc | apply pw_below_drewN | apply below_drew1 | refine below_set ?_ GE243.out) | exact HB.out)⟩⟩
       case rest =>
        clear HC23; try clear c24; try clear p24; try clear q24; try clear hx24
        obtain ⟨kq, x7_22, rfl, HA, HJ22, BK243, HB⟩ := hcut
        cases kq with
        | zero => exact absurd HA.out (by simp [spec_l17Degree.j3])
        | succ kj22 =>
         have H := HA.out
         clear HA
         simp only [spec_l17Degree.j3] at H
         have HC25 := asd H
         clear H
         go_upto_region 6 with (fail)
         go_cut [52] (fun v52 wc => ∃ (kq : Nat) (x52_24 : Bool), v52 = .bool x52_24 ∧ Aside0 (spec_l17Degree.j4 kq a1 a2 x7_22 x52_24 a0_0 a0_1 l0_2 l0_3 = some r) ∧ Aside0 (kq ≤ kj22) ∧ Aside0 (wc.heap[gb243]? = some (.cells #[.int .i64 a0_0, .int .i64 a0_1, (.slice A0_2 l0_2.length c0_2), (.slice A0_3 l0_3.length c0_3)] 25 (0, 0))) ∧ Aside0 (Below w.heap.size w wc))
         case first =>
          have H := HC25.out
          clear HC25
          by_cases c26 : a1 < a0_0
          ·rw [if_pos c26] at H
           have c26b0 : decide (a1 < a0_0) = true := decide_eq_true c26
           clear c26
           (first | rw [c26b0] | (simp only [i64_w, i32_w]; rw [c26b0]) | skip)
           by_cases c27 : 0 ≤ a2
           ·rw [if_pos c27] at H
            have c27b0 : decide (0 ≤ a2) = true := decide_eq_true c27
            clear c27
            by_cases c28 : a2 < (l0_3.length : Int)
            ·rw [if_pos c28] at H
             have c28b0 : decide (a2 < (l0_3.length : Int)) = true := decide_eq_true c28
             clear c28
             by_cases c29 : 0 ≤ a1
             ·rw [if_pos c29] at H
              have c29b0 : decide (0 ≤ a1) = true := decide_eq_true c29
              clear c29
              by_cases c30 : a1 < ((rd_L1 l0_3 a2).length : Int)
              ·rw [if_pos c30] at H
               have c30b0 : decide (a1 < ((rd_L1 l0_3 a2).length : Int)) = true := decide_eq_true c30
               clear c30
               have H' := asd H
               clear H
               have hcz31_0 : wc.cell? ⟨gb243, 0, none⟩ = some (.int .i64 a0_0) := (blk_cell BK243.out 0).trans rfl
               have hcz31_1 : wc.cell? ⟨gb243, 1, none⟩ = some (.int .i64 a0_1) := (blk_cell BK243.out 1).trans rfl
               have hcz31_2 : wc.cell? ⟨gb243, 2, none⟩ = some (.slice A0_2 l0_2.length c0_2) := (blk_cell BK243.out 2).trans rfl
               have hcz31_3 : wc.cell? ⟨gb243, 3, none⟩ = some (.slice A0_3 l0_3.length c0_3) := (blk_cell BK243.out 3).trans rfl
               have hfz31_0 := blk_frozen BK243.out 0
               have hfz31_1 := blk_frozen BK243.out 1
               have hfz31_2 := blk_frozen BK243.out 2
               have hfz31_3 := blk_frozen BK243.out 3
               have p248 : 0 ≤ (a2 : Int) := of_decide_eq_true (by first | (with_reducible assumption) | assumption)
               have q248 : a2 < (l0_3.length : Int) := of_decide_eq_true (by first | (with_reducible assumption) | assumption)
               obtain ⟨ad248, A248_0, c248_0, e248, hx248_0, hl248_0, hi248_0⟩ := at_L1 HR0_3.out a2 p248 q248
               cases e248
               replace hx248_0 := (HB.out.cell (World.block_lt_of_cell? w _ hx248_0)).trans hx248_0
               have HR248_0 := asd hi248_0
               have HC248_0 := asd hl248_0
               clear hi248_0 hl248_0
               replace p248 := eq_true p248
               replace q248 := eq_true q248
               have p249 : 0 ≤ (a1 : Int) := of_decide_eq_true (by first | (with_reducible assumption) | assumption)
               have q249 : a1 < ((rd_L1 l0_3 a2).length : Int) := of_decide_eq_true (by first | (with_reducible assumption) | assumption)
               obtain ⟨ad249, e249, hx249_0⟩ := Kd.at_bool HR248_0.out a1 p249 q249
               cases e249
               replace hx249_0 := (HB.out.cell (World.block_lt_of_cell? w _ hx249_0)).trans hx249_0
               replace p249 := eq_true p249
               replace q249 := eq_true q249
               go_wp2
               go_meet
               case rel => exact ⟨_, (rdOf false (rd_L1 l0_3 a2) a1), (by first | rfl | (simp; done) | (simp [*]; done)), H', ⟨by have := HJ3.out; have := HJ12.out; have := HJ14.out; have := HJ22.out; first | omega | exact Nat.le_refl _⟩, ⟨by (with_reducible repeat (first | refine blk_drewN ?_ _ | refine blk_drew ?_ | refine blk_alloc ?_ _)); exact BK243.out⟩, ⟨by repeat (first | (with_reducible first | exact HB.out | apply below_alloc | apply pw_below_drewN | apply below_drew1 | refine below_set ?_ GE243.out) | exact HB.out)⟩⟩
              ·rw [if_neg c30] at H
               exact absurd H (by simp)
             ·rw [if_neg c29] at H
              exact absurd H (by simp)
            ·rw [if_neg c28] at H
             exact absurd H (by simp)
           ·rw [if_neg c27] at H
            exact absurd H (by simp)
          ·rw [if_neg c26] at H
           have c26b0 : decide (a1 < a0_0) = false := decide_eq_false c26
           clear c26
           (first | rw [c26b0] | (simp only [i64_w, i32_w]; rw [c26b0]) | skip)
           have H' := asd H
           clear H
           have hcz32_0 : wc.cell? ⟨gb243, 0, none⟩ = some (.int .i64 a0_0) := (blk_cell BK243.out 0).trans rfl
           have hcz32_1 : wc.cell? ⟨gb243, 1, none⟩ = some (.int .i64 a0_1) := (blk_cell BK243.out 1).trans rfl
           have hcz32_2 : wc.cell? ⟨gb243, 2, none⟩ = some (.slice A0_2 l0_2.length c0_2) := (blk_cell BK243.out 2).trans rfl
           have hcz32_3 : wc.cell? ⟨gb243, 3, none⟩ = some (.slice A0_3 l0_3.length c0_3) := (blk_cell BK243.out 3).trans rfl
           have hfz32_0 := blk_frozen BK243.out 0
           have hfz32_1 := blk_frozen BK243.out 1
           have hfz32_2 := blk_frozen BK243.out 2
           have hfz32_3 := blk_frozen BK243.out 3
           go_wp2
           go_meet
           case rel => exact ⟨_, (false), (by first | rfl | (simp; done) | (simp [*]; done)), H', ⟨by have := HJ3.out; have := HJ12.out; have := HJ14.out; have := HJ22.out; first | omega | exact Nat.le_refl _⟩, ⟨by (with_reducible repeat (first | refine blk_drewN ?_ _ | refine blk_drew ?_ | refine blk_alloc ?_ _)); exact BK243.out⟩, ⟨by repeat (first | (with_reducible first | exact HB.out | apply below_alloc | apply pw_below_drewN | apply below_drew1 | refine below_set ?_ GE243.out) | exact HB.out)⟩⟩
         case rest =>
          clear HC25; try clear c3; try clear c26; try clear c26b0; try clear c27; try clear c27b0; try clear c28; try clear c28b0; try clear c29; try clear c29b0; try clear c30; try clear c30b0; try clear hcz31_0; try clear hcz31_1; try clear hcz31_2; try clear hcz31_3; try clear hcz32_0; try clear hcz32_1; try clear hcz32_2; try clear hcz32_3; try clear hfz31_0; try clear hfz31_1; try clear hfz31_2; try clear hfz31_3; try clear hfz32_0; try clear hfz32_1; try clear hfz32_2; try clear hfz32_3; try clear hx248_0; try clear hx249_0; try clear p248; try clear p249; try clear q248; try clear q249
          obtain ⟨kq, x52_24, rfl, HA, HJ24, BK243, HB⟩ := hcut
          cases kq with
          | zero => exact absurd HA.out (by simp [spec_l17Degree.j4])
          | succ kj24 =>
           have H := HA.out
           clear HA
           simp only [spec_l17Degree.j4] at H
           by_cases c33 : x52_24 = true
           ·subst c33
            have H1 : (if a1 > 0 then (if 0 ≤ a2 then (if a2 < (l0_3.length : Int) then (if 0 ≤ (wrap64 (a1 - 1)) then (if (wrap64 (a1 - 1)) < ((rd_L1 l0_3 a2).length : Int) then (if rdOf false (rd_L1 l0_3 a2) (wrap64 (a1 - 1)) = true then (some (wrap64 ((wrap64 (x7_22 + 1)) + 1))) else (some (wrap64 (x7_22 + 1)))) else (none)) else (none)) else (none)) else (none)) else (some (wrap64 (x7_22 + 1)))) = some r := by rw [if_pos rfl] at H; exact H
            clear H
            have H := H1
            clear H1
            by_cases c34 : a1 > 0
            ·rw [if_pos c34] at H
             have c34b0 : decide (0 < a1) = true := decide_eq_true c34
             clear c34
             by_cases c35 : 0 ≤ a2
             ·rw [if_pos c35] at H
              have c35b0 : decide (0 ≤ a2) = true := decide_eq_true c35
              clear c35
              by_cases c36 : a2 < (l0_3.length : Int)
              ·rw [if_pos c36] at H
               have c36b0 : decide (a2 < (l0_3.length : Int)) = true := decide_eq_true c36
               clear c36
               obtain ⟨ji37, hji37⟩ : ∃ j_ : Int, (wrap64 (a1 - 1)) = j_ := ⟨_, rfl⟩
               replace H : (if 0 ≤ (ji37) then (if (ji37) < ((rd_L1 l0_3 a2).length : Int) then (if rdOf false (rd_L1 l0_3 a2) (ji37) = true then (some (wrap64 ((wrap64 (x7_22 + 1)) + 1))) else (some (wrap64 (x7_22 + 1)))) else (none)) else (none)) = some r := by first | (rw [hji37] at H; exact H) | (simp only [hji37] at H ⊢; exact H)
               have hji37w : (IntKind.i64.wrap (a1 - 1)) = ji37 := (i64_w _).trans hji37
               by_cases c38 : 0 ≤ (ji37)
               ·rw [if_pos c38] at H
                have c38b0 : decide (0 ≤ (ji37)) = true := decide_eq_true c38
                clear c38
                by_cases c39 : (ji37) < ((rd_L1 l0_3 a2).length : Int)
                ·rw [if_pos c39] at H
                 have c39b0 : decide ((ji37) < ((rd_L1 l0_3 a2).length : Int)) = true := decide_eq_true c39
                 clear c39
                 obtain ⟨bq40, hbq40⟩ : ∃ b_ : Bool, b_ = (rdOf false (rd_L1 l0_3 a2) (ji37)) := ⟨_, rfl⟩
                 replace H : (if bq40 = true then (some (wrap64 ((wrap64 (x7_22 + 1)) + 1))) else (some (wrap64 (x7_22 + 1)))) = some r := by rw [← hbq40] at H; exact H
                 have Nbq40 := asd hbq40
                 clear hbq40
                 by_cases c41 : bq40 = true
                 ·subst c41
                  have H1 : (some (wrap64 ((wrap64 (x7_22 + 1)) + 1))) = some r := by rw [if_pos rfl] at H; exact H
                  clear H
                  have H := H1
                  clear H1
                  obtain rfl := Option.some.inj H
                  have hcz42_0 : wc.cell? ⟨gb243, 0, none⟩ = some (.int .i64 a0_0) := (blk_cell BK243.out 0).trans rfl
                  have hcz42_1 : wc.cell? ⟨gb243, 1, none⟩ = some (.int .i64 a0_1) := (blk_cell BK243.out 1).trans rfl
                  have hcz42_2 : wc.cell? ⟨gb243, 2, none⟩ = some (.slice A0_2 l0_2.length c0_2) := (blk_cell BK243.out 2).trans rfl
                  have hcz42_3 : wc.cell? ⟨gb243, 3, none⟩ = some (.slice A0_3 l0_3.length c0_3) := (blk_cell BK243.out 3).trans rfl
                  have hfz42_0 := blk_frozen BK243.out 0
                  have hfz42_1 := blk_frozen BK243.out 1
                  have hfz42_2 := blk_frozen BK243.out 2
                  have hfz42_3 := blk_frozen BK243.out 3
                  have p250 : 0 ≤ (a2 : Int) := of_decide_eq_true (by first | (with_reducible assumption) | assumption)
                  have q250 : a2 < (l0_3.length : Int) := of_decide_eq_true (by first | (with_reducible assumption) | assumption)
                  obtain ⟨ad250, A250_0, c250_0, e250, hx250_0, hl250_0, hi250_0⟩ := at_L1 HR0_3.out a2 p250 q250
                  cases e250
                  replace hx250_0 := (HB.out.cell (World.block_lt_of_cell? w _ hx250_0)).trans hx250_0
                  have HR250_0 := asd hi250_0
                  have HC250_0 := asd hl250_0
                  clear hi250_0 hl250_0
                  replace p250 := eq_true p250
                  replace q250 := eq_true q250
                  have p251 : 0 ≤ ((ji37) : Int) := of_decide_eq_true (by first | (with_reducible assumption) | assumption)
                  have q251 : (ji37) < ((rd_L1 l0_3 a2).length : Int) := of_decide_eq_true (by first | (with_reducible assumption) | assumption)
                  obtain ⟨ad251, e251, hx251_0⟩ := Kd.at_bool HR250_0.out (ji37) p251 q251
                  (try rw [← Nbq40.out] at hx251_0)
                  cases e251
                  replace hx251_0 := (HB.out.cell (World.block_lt_of_cell? w _ hx251_0)).trans hx251_0
                  replace p251 := eq_true p251
                  replace q251 := eq_true q251
                  go_wp2
                  go_ret
                  exact ⟨by first | rfl | (simp [errW_none, errW_some] <;> rfl) | (simp only [← hji37]; first | rfl | (simp [errW_none, errW_some] <;> rfl)) | (simp [*, errW_none, errW_some] <;> rfl), by repeat (first | (with_reducible first | exact HB.out | apply below_alloc | apply pw_below_drewN | apply below_drew1 | refine below_set ?_ GE243.out) | exact HB.out)⟩
                 ·replace c41 := Bool.eq_false_iff.mpr c41
                  subst c41
                  have H1 : (some (wrap64 (x7_22 + 1))) = some r := by rw [if_neg (show ¬ (false = true) by decide)] at H; exact H
                  clear H
                  have H := H1
                  clear H1
                  obtain rfl := Option.some.inj H
                  have hcz43_0 : wc.cell? ⟨gb243, 0, none⟩ = some (.int .i64 a0_0) := (blk_cell BK243.out 0).trans rfl
                  have hcz43_1 : wc.cell? ⟨gb243, 1, none⟩ = some (.int .i64 a0_1) := (blk_cell BK243.out 1).trans rfl
                  have hcz43_2 : wc.cell? ⟨gb243, 2, none⟩ = some (.slice A0_2 l0_2.length c0_2) := (blk_cell BK243.out 2).trans rfl
                  have hcz43_3 : wc.cell? ⟨gb243, 3, none⟩ = some (.slice A0_3 l0_3.length c0_3) := (blk_cell BK243.out 3).trans rfl
                  have hfz43_0 := blk_frozen BK243.out 0
                  have hfz43_1 := blk_frozen BK243.out 1
                  have hfz43_2 := blk_frozen BK243.out 2
                  have hfz43_3 := blk_frozen BK243.out 3
                  have p250 : 0 ≤ (a2 : Int) := of_decide_eq_true (by first | (with_reducible assumption) | assumption)
                  have q250 : a2 < (l0_3.length : Int) := of_decide_eq_true (by first | (with_reducible assumption) | assumption)
                  obtain ⟨ad250, A250_0, c250_0, e250, hx250_0, hl250_0, hi250_0⟩ := at_L1 HR0_3.out a2 p250 q250
                  cases e250
                  replace hx250_0 := (HB.out.cell (World.block_lt_of_cell? w _ hx250_0)).trans hx250_0
                  have HR250_0 := asd hi250_0
                  have HC250_0 := asd hl250_0
                  clear hi250_0 hl250_0
                  replace p250 := eq_true p250
                  replace q250 := eq_true q250
                  have p251 : 0 ≤ ((ji37) : Int) := of_decide_eq_true (by first | (with_reducible assumption) | assumption)
                  have q251 : (ji37) < ((rd_L1 l0_3 a2).length : Int) := of_decide_eq_true (by first | (with_reducible assumption) | assumption)
                  obtain ⟨ad251, e251, hx251_0⟩ := Kd.at_bool HR250_0.out (ji37) p251 q251
                  (try rw [← Nbq40.out] at hx251_0)
                  cases e251
                  replace hx251_0 := (HB.out.cell (World.block_lt_of_cell? w _ hx251_0)).trans hx251_0
                  replace p251 := eq_true p251
                  replace q251 := eq_true q251
                  go_wp2
                  go_ret
                  exact ⟨by first | rfl | (simp [errW_none, errW_some] <;> rfl) | (simp only [← hji37]; first | rfl | (simp [errW_none, errW_some] <;> rfl)) | (simp [*, errW_none, errW_some] <;> rfl), by repeat (first | (with_reducible first | exact HB.out | apply below_alloc | apply pw_below_drewN | apply below_drew1 | refine below_set ?_ GE243.out) | exact HB.out)⟩
                ·rw [if_neg c39] at H
                 exact absurd H (by simp)
               ·rw [if_neg c38] at H
                exact absurd H (by simp)
              ·rw [if_neg c36] at H
               exact absurd H (by simp)
             ·rw [if_neg c35] at H
              exact absurd H (by simp)
            ·rw [if_neg c34] at H
             have c34b0 : decide (0 < a1) = false := decide_eq_false c34
             clear c34
             obtain rfl := Option.some.inj H
             go_wp2
             go_ret
             exact ⟨by first | rfl | (simp [errW_none, errW_some] <;> rfl) | (simp [*, errW_none, errW_some] <;> rfl), by repeat (first | (with_reducible first | exact HB.out | apply below_alloc | apply pw_below_drewN | apply below_drew1 | refine below_set ?_ GE243.out) | exact HB.out)⟩
           ·replace c33 := Bool.eq_false_iff.mpr c33
            subst c33
            have H1 : (if a1 > 0 then (if 0 ≤ a2 then (if a2 < (l0_3.length : Int) then (if 0 ≤ (wrap64 (a1 - 1)) then (if (wrap64 (a1 - 1)) < ((rd_L1 l0_3 a2).length : Int) then (if rdOf false (rd_L1 l0_3 a2) (wrap64 (a1 - 1)) = true then (some (wrap64 (x7_22 + 1))) else (some x7_22)) else (none)) else (none)) else (none)) else (none)) else (some x7_22)) = some r := by rw [if_neg (show ¬ (false = true) by decide)] at H; exact H
            clear H
            have H := H1
            clear H1
            by_cases c44 : a1 > 0
            ·rw [if_pos c44] at H
             have c44b0 : decide (0 < a1) = true := decide_eq_true c44
             clear c44
             by_cases c45 : 0 ≤ a2
             ·rw [if_pos c45] at H
              have c45b0 : decide (0 ≤ a2) = true := decide_eq_true c45
              clear c45
              by_cases c46 : a2 < (l0_3.length : Int)
              ·rw [if_pos c46] at H
               have c46b0 : decide (a2 < (l0_3.length : Int)) = true := decide_eq_true c46
               clear c46
               obtain ⟨ji47, hji47⟩ : ∃ j_ : Int, (wrap64 (a1 - 1)) = j_ := ⟨_, rfl⟩
               replace H : (if 0 ≤ (ji47) then (if (ji47) < ((rd_L1 l0_3 a2).length : Int) then (if rdOf false (rd_L1 l0_3 a2) (ji47) = true then (some (wrap64 (x7_22 + 1))) else (some x7_22)) else (none)) else (none)) = some r := by first | (rw [hji47] at H; exact H) | (simp only [hji47] at H ⊢; exact H)
               have hji47w : (IntKind.i64.wrap (a1 - 1)) = ji47 := (i64_w _).trans hji47
               by_cases c48 : 0 ≤ (ji47)
               ·rw [if_pos c48] at H
                have c48b0 : decide (0 ≤ (ji47)) = true := decide_eq_true c48
                clear c48
                by_cases c49 : (ji47) < ((rd_L1 l0_3 a2).length : Int)
                ·rw [if_pos c49] at H
                 have c49b0 : decide ((ji47) < ((rd_L1 l0_3 a2).length : Int)) = true := decide_eq_true c49
                 clear c49
                 obtain ⟨bq50, hbq50⟩ : ∃ b_ : Bool, b_ = (rdOf false (rd_L1 l0_3 a2) (ji47)) := ⟨_, rfl⟩
                 replace H : (if bq50 = true then (some (wrap64 (x7_22 + 1))) else (some x7_22)) = some r := by rw [← hbq50] at H; exact H
                 have Nbq50 := asd hbq50
                 clear hbq50
                 by_cases c51 : bq50 = true
                 ·subst c51
                  have H1 : (some (wrap64 (x7_22 + 1))) = some r := by rw [if_pos rfl] at H; exact H
                  clear H
                  have H := H1
                  clear H1
                  obtain rfl := Option.some.inj H
                  have hcz52_0 : wc.cell? ⟨gb243, 0, none⟩ = some (.int .i64 a0_0) := (blk_cell BK243.out 0).trans rfl
                  have hcz52_1 : wc.cell? ⟨gb243, 1, none⟩ = some (.int .i64 a0_1) := (blk_cell BK243.out 1).trans rfl
                  have hcz52_2 : wc.cell? ⟨gb243, 2, none⟩ = some (.slice A0_2 l0_2.length c0_2) := (blk_cell BK243.out 2).trans rfl
                  have hcz52_3 : wc.cell? ⟨gb243, 3, none⟩ = some (.slice A0_3 l0_3.length c0_3) := (blk_cell BK243.out 3).trans rfl
                  have hfz52_0 := blk_frozen BK243.out 0
                  have hfz52_1 := blk_frozen BK243.out 1
                  have hfz52_2 := blk_frozen BK243.out 2
                  have hfz52_3 := blk_frozen BK243.out 3
                  have p252 : 0 ≤ (a2 : Int) := of_decide_eq_true (by first | (with_reducible assumption) | assumption)
                  have q252 : a2 < (l0_3.length : Int) := of_decide_eq_true (by first | (with_reducible assumption) | assumption)
                  obtain ⟨ad252, A252_0, c252_0, e252, hx252_0, hl252_0, hi252_0⟩ := at_L1 HR0_3.out a2 p252 q252
                  cases e252
                  replace hx252_0 := (HB.out.cell (World.block_lt_of_cell? w _ hx252_0)).trans hx252_0
                  have HR252_0 := asd hi252_0
                  have HC252_0 := asd hl252_0
                  clear hi252_0 hl252_0
                  replace p252 := eq_true p252
                  replace q252 := eq_true q252
                  have p253 : 0 ≤ ((ji47) : Int) := of_decide_eq_true (by first | (with_reducible assumption) | assumption)
                  have q253 : (ji47) < ((rd_L1 l0_3 a2).length : Int) := of_decide_eq_true (by first | (with_reducible assumption) | assumption)
                  obtain ⟨ad253, e253, hx253_0⟩ := Kd.at_bool HR252_0.out (ji47) p253 q253
                  (try rw [← Nbq50.out] at hx253_0)
                  cases e253
                  replace hx253_0 := (HB.out.cell (World.block_lt_of_cell? w _ hx253_0)).trans hx253_0
                  replace p253 := eq_true p253
                  replace q253 := eq_true q253
                  go_wp2
                  go_ret
                  exact ⟨by first | rfl | (simp [errW_none, errW_some] <;> rfl) | (simp only [← hji47]; first | rfl | (simp [errW_none, errW_some] <;> rfl)) | (simp [*, errW_none, errW_some] <;> rfl), by repeat (first | (with_reducible first | exact HB.out | apply below_alloc | apply pw_below_drewN | apply below_drew1 | refine below_set ?_ GE243.out) | exact HB.out)⟩
                 ·replace c51 := Bool.eq_false_iff.mpr c51
                  subst c51
                  have H1 : (some x7_22) = some r := by rw [if_neg (show ¬ (false = true) by decide)] at H; exact H
                  clear H
                  have H := H1
                  clear H1
                  obtain rfl := Option.some.inj H
                  have hcz53_0 : wc.cell? ⟨gb243, 0, none⟩ = some (.int .i64 a0_0) := (blk_cell BK243.out 0).trans rfl
                  have hcz53_1 : wc.cell? ⟨gb243, 1, none⟩ = some (.int .i64 a0_1) := (blk_cell BK243.out 1).trans rfl
                  have hcz53_2 : wc.cell? ⟨gb243, 2, none⟩ = some (.slice A0_2 l0_2.length c0_2) := (blk_cell BK243.out 2).trans rfl
                  have hcz53_3 : wc.cell? ⟨gb243, 3, none⟩ = some (.slice A0_3 l0_3.length c0_3) := (blk_cell BK243.out 3).trans rfl
                  have hfz53_0 := blk_frozen BK243.out 0
                  have hfz53_1 := blk_frozen BK243.out 1
                  have hfz53_2 := blk_frozen BK243.out 2
                  have hfz53_3 := blk_frozen BK243.out 3
                  have p252 : 0 ≤ (a2 : Int) := of_decide_eq_true (by first | (with_reducible assumption) | assumption)
                  have q252 : a2 < (l0_3.length : Int) := of_decide_eq_true (by first | (with_reducible assumption) | assumption)
                  obtain ⟨ad252, A252_0, c252_0, e252, hx252_0, hl252_0, hi252_0⟩ := at_L1 HR0_3.out a2 p252 q252
                  cases e252
                  replace hx252_0 := (HB.out.cell (World.block_lt_of_cell? w _ hx252_0)).trans hx252_0
                  have HR252_0 := asd hi252_0
                  have HC252_0 := asd hl252_0
                  clear hi252_0 hl252_0
                  replace p252 := eq_true p252
                  replace q252 := eq_true q252
                  have p253 : 0 ≤ ((ji47) : Int) := of_decide_eq_true (by first | (with_reducible assumption) | assumption)
                  have q253 : (ji47) < ((rd_L1 l0_3 a2).length : Int) := of_decide_eq_true (by first | (with_reducible assumption) | assumption)
                  obtain ⟨ad253, e253, hx253_0⟩ := Kd.at_bool HR252_0.out (ji47) p253 q253
                  (try rw [← Nbq50.out] at hx253_0)
                  cases e253
                  replace hx253_0 := (HB.out.cell (World.block_lt_of_cell? w _ hx253_0)).trans hx253_0
                  replace p253 := eq_true p253
                  replace q253 := eq_true q253
                  go_wp2
                  go_ret
                  exact ⟨by first | rfl | (simp [errW_none, errW_some] <;> rfl) | (simp only [← hji47]; first | rfl | (simp [errW_none, errW_some] <;> rfl)) | (simp [*, errW_none, errW_some] <;> rfl), by repeat (first | (with_reducible first | exact HB.out | apply below_alloc | apply pw_below_drewN | apply below_drew1 | refine below_set ?_ GE243.out) | exact HB.out)⟩
                ·rw [if_neg c49] at H
                 exact absurd H (by simp)
               ·rw [if_neg c48] at H
                exact absurd H (by simp)
              ·rw [if_neg c46] at H
               exact absurd H (by simp)
             ·rw [if_neg c45] at H
              exact absurd H (by simp)
            ·rw [if_neg c44] at H
             have c44b0 : decide (0 < a1) = false := decide_eq_false c44
             clear c44
             obtain rfl := Option.some.inj H
             go_wp2
             go_ret
             exact ⟨by first | rfl | (simp [errW_none, errW_some] <;> rfl) | (simp [*, errW_none, errW_some] <;> rfl), by repeat (first | (with_reducible first | exact HB.out | apply below_alloc | apply pw_below_drewN | apply below_drew1 | refine below_set ?_ GE243.out) | exact HB.out)⟩

end Go.Proofs.Ytncmneliinbjdaa.PMk
